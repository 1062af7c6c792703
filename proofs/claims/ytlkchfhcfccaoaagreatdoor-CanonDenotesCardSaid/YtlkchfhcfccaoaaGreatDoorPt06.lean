/- Walks and laws, merged: part 6. -/
import Derived.Deep.AppendLies
import Derived.RegionTactic
import Derived.OwnWalk
import Derived.Shelf.SlSortCmp.WholeK
import Derived.Ground.SlsfProg
import Derived.Test.YtlkchfhcfccaoaaGreatDoorProg
import Derived.Shelf.Small.Bits
import Derived.Shelf.Small.Wraps
import Derived.Shelf.Strconv.Itoa0
import Derived.Shelf.Slices.Equal
import Derived.Ground.Names2Prog
import Derived.Shelf.Slices.SearchI
import Derived.Shelf.Slices.Empties2
import Derived.Test.YtlkchfhcfccaoaaGreatDoorPt03
import Derived.Test.YtlkchfhcfccaoaaGreatDoorPt05
section
namespace Go.Proofs.YtlkchfhcfccaoaaGreatDoor
open Go.RowKit
set_option linter.unusedVariables false

/-- The cells at an address: n elements of sz cells. -/
def Rd (w : World) (sz : Nat) (A : Option Addr) (n : Nat) (xs : List Value) : Prop :=
  xs.length = n * sz ∧ (0 < n → ∃ b o, A = some ⟨b, o, none⟩ ∧ ∀ j u, xs[j]? = some u → w.cell? ⟨b, o + j, none⟩ = some u)

theorem Rd.below {w w' : World} {sz n : Nat} {A : Option Addr} {xs : List Value} (h : Rd w sz A n xs) (hb : Below w.heap.size w w') : Rd w' sz A n xs :=
  ⟨h.1, fun hn => by
    obtain ⟨b, o, e, hc⟩ := h.2 hn
    refine ⟨b, o, e, fun j u hu => ?_⟩
    have := hc j u hu
    exact (hb.cell (p := ⟨b, o + j, none⟩) (cell_lt this)).trans this⟩

theorem Rd.own {w : World} {base sz n c : Nat} {e : TypeId} {A : Option Addr} {xs : List Value} (h : w.ownsRow base e sz (.slice A n c) n xs) : Rd w sz A n xs := by
  refine ⟨h.1, fun hn => ?_⟩
  obtain ⟨g, cap, hv, _, hlt⟩ := h.form hn
  have hA : A = some ⟨g, 0, none⟩ := by injection hv
  subst hA
  refine ⟨g, 0, rfl, fun j u hu => ?_⟩
  have := h.cells (g := g) rfl j u hu
  rwa [add_at] at this

theorem Rd.news {w : World} {sz n : Nat} {x : Addr} {xs : List Value} (h : Rd w sz (some x) n xs) (hz : 0 < sz) : ∀ j u, xs[j]? = some u → w.cell? (x.add j) = some u := by
  intro j u hu
  have hn : 0 < n := by
    refine Nat.pos_of_ne_zero fun h0 => ?_
    subst h0
    have : xs = [] := List.eq_nil_of_length_eq_zero (by simpa using h.1)
    rw [this] at hu; simp at hu
  obtain ⟨b, o, e, hc⟩ := h.2 hn
  cases e
  rw [add_at]
  exact hc j u hu

theorem run_append_none' {P : Program} (w : World) (base : Nat) (t ty e : TypeId) (i : TypeInfo) (size : Nat) (ht : P.underlying t = some (.slice e)) (hi : P.info? e = some i)
    (v : Value) (n : Nat) (xs : List Value) (hown : w.ownsRow base e size v n xs) (c : Nat) : (Builtin.append_ #[t, t] ty #[v, .slice none 0 c]).run P w = .ok v w := by
  rcases hown.2 with ⟨rfl, rfl⟩ | ⟨g, cap, cur, rfl, _, _, hnc, _⟩
  · simp [Builtin.append_, run_underlying ht, sizeOf, typeInfo, hi, Builtin.lenOf, Builtin.firstCells]
  · simp [Builtin.append_, run_underlying ht, sizeOf, typeInfo, hi, Builtin.lenOf, Builtin.firstCells, hnc, storeCells]

/-- append(v, s...): v the call's own. -/
theorem run_append_rd {P : Program} {w : World} (base : Nat) (t ty e : TypeId) (z : Value) (size bytes : Nat) (ht : P.underlying t = some (.slice e))
    (hinfo : (P.info? e).map (fun i => (i.zero, i.size, i.bytes)) = some (some z, size, bytes)) (hzs : z.cells.size = size) (hsz : 0 < size)
    (v : Value) (n : Nat) (xs : List Value) (hown : w.ownsRow base e size v n xs) (A : Option Addr) (m c : Nat) (news : List Value) (hr : Rd w size A m news) (h1 : ∀ u ∈ news, u.oneCell' = true)
    (hlen : n + m ≤ maxLen) (hbytes : (n + m) * bytes ≤ 140737488355328) (hbase : base ≤ w.heap.size) :
    ∃ v' w', (Builtin.append_ #[t, t] ty #[v, .slice A m c]).run P w = .ok v' w' ∧ w'.ownsRow base e size v' (n + m) (xs ++ news) ∧ w.grownBy w' v.ownBlock := by
  obtain ⟨i, hi, hz, hs, hby⟩ := info_parts hinfo
  rcases A with _ | x
  · have hm : m = 0 := by
      rcases Nat.eq_zero_or_pos m with h0 | h0
      · exact h0
      · obtain ⟨b, o, h, _⟩ := hr.2 h0; cases h
    subst hm
    have hn : news = [] := List.eq_nil_of_length_eq_zero (by simpa using hr.1)
    subst hn
    exact ⟨v, w, run_append_none' w base t ty e i size ht hi v n xs hown c, by simpa using hown, World.grownBy.refl w _⟩
  · obtain ⟨v', w', hrun, ho, hg, _⟩ := run_append_own (P := P) w base t ty e i z size bytes ht hi hz hs hby hzs hsz v n xs hown x m c news hr.1 (hr.news hsz) h1 hlen hbytes hbase
    exact ⟨v', w', hrun, ho, hg⟩

/-- The step law of an append whose run is known: for a region that draws its order. -/
theorem step_append_hr {P : Program} {w : World} {ops : Array Oper} {o : Oper} {a : Act} {K : Act → World → Prop} {Q : Exit → Act → World → Prop} {E : Prop} (hgd : o.guard = none) (s x : Operand) (t : TypeId)
    (ho : o.op = .call { callee := .builtin .append, args := #[s, x], argTypes := #[t, t] })
    (v u : Value) (hs : a.eval s = v) (hx : a.eval x = u) (v' : Value) (w' : World) (hrun : (Builtin.append_ #[t, t] o.type #[v, u]).run P w = .ok v' w')
    (h : K (a.put o.dst v') w') : if Region.wanted o (yielded ops a.tmps) = true then Oper.wp P o a w K Q else E := by
  have hw : Region.wanted o (yielded ops a.tmps) = true := by simp [Region.wanted, hgd]
  rw [if_pos hw]
  unfold Oper.wp
  simp [execOp, ho, resolve, invoke, builtin, hs, hx, hrun, Result.andThen]
  exact h

/-- A prefix of a slice of the call's own. -/
theorem own_take {w : World} {base size n c g : Nat} {e : TypeId} {xs : List Value} (h : w.ownsRow base e size (.slice (some ⟨g, 0, none⟩) n c) n xs) (k : Nat) (hk : k ≤ n) : w.ownsRow base e size (.slice (some ⟨g, 0, none⟩) k c) k (xs.take (k * size)) := by
  have h1 := h.1
  rcases h.2 with ⟨h', _⟩ | ⟨g', cap', cur, h', hb, hg, hnc, hcm, hcs, htake⟩
  · simp at h'
  · simp only [Value.slice.injEq, Option.some.injEq, Addr.mk.injEq, and_true, true_and] at h'
    obtain ⟨rfl, rfl⟩ := h'
    have hks : k * size ≤ n * size := Nat.mul_le_mul_right _ hk
    refine ⟨by rw [List.length_take, h1]; omega, .inr ⟨g, c, cur, rfl, hb, hg, by omega, hcm, hcs, ?_⟩⟩
    rw [← htake, List.take_take]
    congr 1
    omega

/-! Numbers. -/
structure U64s (w : World) (a : Option Addr) (n cap : Nat) (l : List Nat) : Prop where
  len : l.length = n
  lt : ∀ x ∈ l, x < 18446744073709551616
  room : n ≤ cap
  most : cap ≤ 9223372036854775807
  nilc : a = none → cap = 0
  cells : 0 < n → ∃ b o, a = some ⟨b, o, none⟩ ∧ ∀ i, i < n → w.cell? ⟨b, o + i, none⟩ = some (.int .u64 ((nth l i : Nat) : Int))

def u64C (l : List Nat) : List Value := l.map fun x => Value.int .u64 ((x : Nat) : Int)
theorem u64C_append (a b : List Nat) : u64C (a ++ b) = u64C a ++ u64C b := by simp [u64C]
theorem u64C_length (a : List Nat) : (u64C a).length = a.length := by simp [u64C]
theorem u64C_get (l : List Nat) (i : Nat) (h : i < l.length) : (u64C l)[i]? = some (.int .u64 ((nth l i : Nat) : Int)) := by simp [u64C, nth, h]
theorem u64C_take (l : List Nat) (k : Nat) : (u64C l).take k = u64C (l.take k) := by simp [u64C, List.map_take]
theorem u64C_drop (l : List Nat) (k : Nat) : (u64C l).drop k = u64C (l.drop k) := by simp [u64C, List.map_drop]
theorem u64C_one (l : List Nat) : ∀ u ∈ u64C l, u.oneCell' = true := by
  intro u hu
  simp only [u64C, List.mem_map] at hu
  obtain ⟨x, _, rfl⟩ := hu
  rfl

theorem U64s.below {w w' : World} {a : Option Addr} {n cap : Nat} {l : List Nat} (h : U64s w a n cap l) (hb : Below w.heap.size w w') : U64s w' a n cap l := by
  refine ⟨h.len, h.lt, h.room, h.most, h.nilc, fun hn => ?_⟩
  obtain ⟨b, o, ha, hc⟩ := h.cells hn
  refine ⟨b, o, ha, fun i hi => ?_⟩
  have := hc i hi
  exact (hb.cell (p := ⟨b, o + i, none⟩) (cell_lt this)).trans this

theorem U64s.rd {w : World} {a : Option Addr} {n cap : Nat} {l : List Nat} (h : U64s w a n cap l) : Rd w 1 a n (u64C l) := by
  refine ⟨by rw [u64C_length, h.len]; omega, fun hn => ?_⟩
  obtain ⟨b, o, e, hc⟩ := h.cells hn
  refine ⟨b, o, e, fun j u hu => ?_⟩
  have hj : j < l.length := by
    rcases Nat.lt_or_ge j l.length with h' | h'
    · exact h'
    · rw [List.getElem?_eq_none (by rw [u64C_length]; exact h')] at hu; cases hu
  rw [u64C_get l j hj] at hu
  cases hu
  exact hc j (by rw [← h.len]; exact hj)

theorem u64s_own {w : World} {base n : Nat} {T : TypeId} {v : Value} {l : List Nat} (h : w.ownsRow base T 1 v n (u64C l)) (hl : ∀ x ∈ l, x < 18446744073709551616) : ∃ a cap, v = .slice a n cap ∧ U64s w a n cap l := by
  have hlen : l.length = n := by have := h.1; rw [u64C_length] at this; omega
  rcases h.2 with ⟨rfl, rfl⟩ | ⟨g, cap, cur, rfl, hg, hh, hnc, hcm, _⟩
  · exact ⟨none, 0, rfl, hlen, hl, by omega, by omega, fun _ => rfl, fun h => by omega⟩
  · refine ⟨_, _, rfl, hlen, hl, hnc, by unfold maxLen at hcm; omega, (by intro h; cases h), fun hn => ⟨g, 0, rfl, fun i hi => ?_⟩⟩
    have hc := h.cells (g := g) rfl i (.int .u64 ((nth l i : Nat) : Int)) (u64C_get l i (by omega))
    rw [add_at] at hc
    exact hc

theorem Ivs.rd {w : World} {a : Option Addr} {n cap : Nat} {l : List Iv} (h : Ivs w a n cap l) : Rd w 2 a n (ivC l) := by
  refine ⟨by rw [ivC_length, h.len], fun hn => ?_⟩
  obtain ⟨b, o, e, hc⟩ := h.cells hn
  refine ⟨b, o, e, fun j u hu => ?_⟩
  have hj : j < l.length * 2 := by
    rcases Nat.lt_or_ge j (l.length * 2) with h' | h'
    · exact h'
    · rw [List.getElem?_eq_none (by rw [ivC_length]; exact h')] at hu; cases hu
  have hi : j / 2 < l.length := by omega
  obtain ⟨e1, e2⟩ := ivC_get l (j / 2) hi
  obtain ⟨c1, c2⟩ := hc (j / 2) (by rw [← h.len]; exact hi)
  rcases Nat.mod_two_eq_zero_or_one j with hm | hm
  · rw [show j / 2 * 2 = j by omega] at e1 c1
    rw [e1] at hu; cases hu; exact c1
  · rw [show j / 2 * 2 + 1 = j by omega] at e2
    rw [show o + j / 2 * 2 + 1 = o + j by omega] at c2
    rw [e2] at hu; cases hu; exact c2

theorem Tryz.info_u64 : (Tryz.prog.info? 43).map (fun i => (i.zero, i.size, i.bytes)) = some (some (.int .u64 0), 1, 8) := by kernel_rfl
theorem Tryz.info_iv : (Tryz.prog.info? 65).map (fun i => (i.zero, i.size, i.bytes)) = some (some (.agg #[.int .u64 0, .int .u64 0]), 2, 16) := by kernel_rfl

/-- append at numbers. -/
theorem run_append_u64 {w : World} (base : Nat) (v : Value) (n : Nat) (xs : List Nat) (hown : w.ownsRow base 43 1 v n (u64C xs)) (A : Option Addr) (m c : Nat) (l : List Nat) (hr : Rd w 1 A m (u64C l)) (hb : n + m ≤ 1000000) (hbase : base ≤ w.heap.size) :
    ∃ v' w', (Builtin.append_ #[146, 146] 146 #[v, .slice A m c]).run Tryz.prog w = .ok v' w' ∧ w'.ownsRow base 43 1 v' (n + m) (u64C (xs ++ l)) ∧ w.grownBy w' v.ownBlock := by
  rw [u64C_append]
  exact run_append_rd base _ _ _ _ 1 8 Tryz.underlying146 Tryz.info_u64 rfl (by omega) v n _ hown A m c _ hr (u64C_one l) (by unfold maxLen; omega) (by omega) hbase

/-- append at intervals. -/
theorem run_append_iv {w : World} (base : Nat) (v : Value) (n : Nat) (xs : List Iv) (hown : w.ownsRow base 65 2 v n (ivC xs)) (A : Option Addr) (m c : Nat) (l : List Iv) (hr : Rd w 2 A m (ivC l)) (hb : n + m ≤ 1000000) (hbase : base ≤ w.heap.size) :
    ∃ v' w', (Builtin.append_ #[29, 29] 29 #[v, .slice A m c]).run Tryz.prog w = .ok v' w' ∧ w'.ownsRow base 65 2 v' (n + m) (ivC (xs ++ l)) ∧ w.grownBy w' v.ownBlock := by
  rw [ivC_append]
  exact run_append_rd base _ _ _ _ 2 16 Tryz.underlying29 Tryz.info_iv rfl (by omega) v n _ hown A m c _ hr (ivC_one l) (by unfold maxLen; omega) (by omega) hbase

/-- A literal of one element, at its address. -/
theorem rd_lit {w : World} {sz : Nat} (C : Array Value) (T : TypeId) (fr : Nat × Nat) (n : Nat) (xs : List Value) (hC : C = xs.toArray) (hx : xs.length = n * sz) : Rd (w.alloc (.cells C T fr)) sz (some ⟨w.heap.size, 0, none⟩) n xs := by
  subst hC
  refine ⟨hx, fun _ => ⟨w.heap.size, 0, rfl, fun j u hu => ?_⟩⟩
  rw [World.cell?_alloc_mark]
  simpa using hu

end Go.Proofs.YtlkchfhcfccaoaaGreatDoor
end

section
namespace Go.Proofs.YtlkchfhcfccaoaaGreatDoor
open Go.RowKit Go.Sort
set_option linter.unusedVariables false

def encI (s : Iv) : List Value := [.int .u64 ((s.1 : Nat) : Int), .int .u64 ((s.2 : Nat) : Int)]
def cfI (x y : Iv) : Int := Lib.compareInt (x.1 : Int) (y.1 : Int)

theorem ltI (x y : Iv) : ltOf cfI x y = decide (x.1 < y.1) := by
  unfold ltOf cfI Lib.compareInt
  by_cases h1 : x.1 < y.1
  · simp [h1]
  · by_cases h2 : y.1 < x.1
    · simp [h1, h2]
    · simp [h1, h2]

theorem swoI : SWO (ltOf cfI) where
  irrefl x := by rw [ltI]; simp
  trans x y z h1 h2 := by rw [ltI] at *; simp at *; omega
  ntrans x y z h1 h2 := by rw [ltI] at *; simp at *; omega

theorem perm_list {d d' : Array Iv} (h : PermIn 0 d.size d d') : d'.toList.Perm d.toList := by
  obtain ⟨h1, _, h3⟩ := h
  rw [Array.extract_eq_self_of_le (by omega), Array.extract_eq_self_of_le (by omega)] at h3
  exact h3

theorem sorted_list {d : Array Iv} {d' : Array Iv} (hs : d'.size = d.size) (h : SortedIn (ltOf cfI) 0 d.size d') : AscLo d'.toList := by
  intro i j hij hj
  have hj' : j < d'.size := by simpa using hj
  have := h i j (Nat.zero_le _) hij (by omega)
  rw [ltI] at this
  have e1 : nthI d'.toList i = d'[i]! := by rw [nthI_get (by simp; omega)]; simp [getElem!_pos d' i (by omega)]
  have e2 : nthI d'.toList j = d'[j]! := by rw [nthI_get hj]; simp [getElem!_pos d' j hj']
  rw [e1, e2]
  simp at this
  omega

theorem holds_own {w : World} {base n cap g : Nat} {T : TypeId} {l : List Iv} (h : w.ownsRow base T 2 (.slice (some ⟨g, 0, none⟩) n cap) n (ivC l)) : HoldsK encI 2 w g 0 l.toArray := by
  have hlen : l.length = n := by have := h.1; rw [ivC_length] at this; omega
  intro j hj
  rw [size_flatK] at hj
  have hj' : j < l.length * 2 := by simpa using hj
  have hi : j / 2 < l.length := by omega
  refine ⟨?_, by rw [Nat.zero_add]; exact h.frozenAt j⟩
  rw [Nat.zero_add, h.cellAt j (by omega)]
  obtain ⟨e1, e2⟩ := ivC_get l (j / 2) hi
  rw [get_flatK _ _ _ _ (by simpa using hj')]
  have e : l.toArray[j / 2]! = nthI l (j / 2) := by rw [nthI_get hi]; simp [hi]
  rw [e]
  rcases Nat.mod_two_eq_zero_or_one j with hm | hm
  · rw [show j / 2 * 2 = j by omega] at e1
    rw [e1, hm]; rfl
  · rw [show j / 2 * 2 + 1 = j by omega] at e2
    rw [e2, hm]; rfl

theorem below_sorted {w : World} {base g n : Nat} (d' : Array Iv) (os : Array Obj) (hg : base ≤ g) (hw : base ≤ w.heap.size) : Below base w (sortWorldK encI 2 w g 0 n d' os) := by
  refine ⟨rfl, rfl, rfl, ?_, ?_⟩
  · simp [sortWorldK, grow, putRowK, putRow, mapBlock]
  · intro k hk
    simp only [sortWorldK, grow, putRowK, putRow, mapBlock, heap_ahead]
    rw [Array.getElem?_append_left (by simp; omega), Array.getElem?_modify, if_neg (by omega)]

theorem sorted_cells {w : World} {g n m : Nat} {d d' : Array Iv} (os : Array Obj) (hH : HoldsK encI 2 w g 0 d) (hs : d'.size = d.size) (hg : g < w.heap.size) (hlt : ∀ s ∈ d'.toList, s.1 < 18446744073709551616 ∧ s.2 < 18446744073709551616) (hn : d.size = n) (hm : n ≤ 9223372036854775807) :
    Ivs (sortWorldK encI 2 w g 0 m d' os) (some ⟨g, 0, none⟩) n n d'.toList := by
  have h := holdsK_sortWorldK_c encI 2 w g 0 d d' m os hH hg hs
  refine ⟨by simp [hs, hn], hlt, Nat.le_refl _, hm, (by intro h; cases h), fun _ => ⟨g, 0, rfl, fun i hi => ?_⟩⟩
  have hi' : i < d'.size := by omega
  have e : nthI d'.toList i = d'[i]! := by rw [nthI_get (by simpa using hi')]; simp [getElem!_pos d' i hi']
  have c0 := (h.cell (i := i) (c := 0) hi' (by omega)).1
  have c1 := (h.cell (i := i) (c := 1) hi' (by omega)).1
  rw [e]
  exact ⟨c0, c1⟩

/-- copy at whole elements of any size. -/
theorem run_copy_sz {P : Program} (w : World) (dT sT ty elem : TypeId) (g dLen dCap : Nat) (a : Addr) (sLen sCap : Nat) (cur : Array Value) (t : TypeId) (cs : List Value) (size : Nat)
    (hu : P.underlying dT = some (.slice elem)) (hs : (P.info? elem).map (·.size) = some size)
    (hg : w.heap[g]? = some (.cells cur t (0, 0))) (hn : cs.length = Nat.min sLen dLen * size)
    (hsrc : ∀ j v, cs[j]? = some v → w.cell? (a.add j) = some v) (hfit : cs.length ≤ cur.size) (h1 : ∀ v ∈ cs, v.oneCell' = true) :
    (Builtin.copy_ #[dT, sT] ty #[.slice (some ⟨g, 0, none⟩) dLen dCap, .slice (some a) sLen sCap]).run P w =
      .ok (goInt (Nat.min sLen dLen)) (w.setRow g (cs ++ cur.toList.drop cs.length).toArray) := by
  have hl := run_loadCells_list (P := P) w a cs hsrc
  have hst := run_storeCells_at P g 0 t cs 0 cur w hg (by simpa using hfit) h1
  cases hq : P.info? elem with
  | none => simp [hq] at hs
  | some i =>
    have hi : i.size = size := by simpa [hq] using hs
    simp [Builtin.copy_, run_underlying hu, Builtin.lenOf, Builtin.firstCells, sizeOf, typeInfo, hq, hi, ← hn, hl, hst]

end Go.Proofs.YtlkchfhcfccaoaaGreatDoor
end

section
namespace Go.Proofs
open Go.Shelf
def Tryz.pdqIv_ren : Go.Shelf.Ren := ⟨fun | 14 => 97 | 20 => 141 | 21 => 142 | 22 => 143 | 23 => 144 | 24 => 145 | 25 => 146 | 26 => 147 | 27 => 148 | 46 => 177 | 47 => 178 | 48 => 179 | 49 => 180 | 50 => 181 | 15 => 98 | 57 => 190 | 28 => 149 | 29 => 150 | n => n, fun | 24 => 65 | 22 => 28 | 3 => 3 | 25 => 91 | 4 => 4 | 0 => 0 | 46 => 187 | 45 => 186 | 50 => 140 | 66 => 223 | 39 => 133 | 55 => 43 | 70 => 226 | 76 => 241 | 77 => 38 | 53 => 193 | 5 => 5 | 9 => 9 | n => n, fun | n => n⟩
theorem Tryz.pdqIv : Go.Proofs.SlLaysF0.n14 Tryz.prog Tryz.pdqIv_ren := {
  mixed := by kernel_rfl
  f14 := ⟨Tryz.f97.name, by decide, Tryz.func97.trans (congrArg some (by kernel_rfl))⟩
  f15 := Tryz.func98.trans (congrArg some (by kernel_rfl))
  f20 := ⟨Tryz.f141.name, by decide, Tryz.func141.trans (congrArg some (by kernel_rfl))⟩
  f21 := ⟨Tryz.f142.name, by decide, Tryz.func142.trans (congrArg some (by kernel_rfl))⟩
  f22 := ⟨Tryz.f143.name, by decide, Tryz.func143.trans (congrArg some (by kernel_rfl))⟩
  f23 := ⟨Tryz.f144.name, by decide, Tryz.func144.trans (congrArg some (by kernel_rfl))⟩
  f24 := ⟨Tryz.f145.name, by decide, Tryz.func145.trans (congrArg some (by kernel_rfl))⟩
  f25 := ⟨Tryz.f146.name, by decide, Tryz.func146.trans (congrArg some (by kernel_rfl))⟩
  f26 := ⟨Tryz.f147.name, by decide, Tryz.func147.trans (congrArg some (by kernel_rfl))⟩
  f27 := ⟨Tryz.f148.name, by decide, Tryz.func148.trans (congrArg some (by kernel_rfl))⟩
  f28 := Tryz.func149.trans (congrArg some (by kernel_rfl))
  f29 := Tryz.func150.trans (congrArg some (by kernel_rfl))
  f46 := ⟨Tryz.f177.name, by decide, Tryz.func177.trans (congrArg some (by kernel_rfl))⟩
  f47 := Tryz.func178.trans (congrArg some (by kernel_rfl))
  f48 := Tryz.func179.trans (congrArg some (by kernel_rfl))
  f49 := ⟨Tryz.f180.name, by decide, Tryz.func180.trans (congrArg some (by kernel_rfl))⟩
  f50 := ⟨Tryz.f181.name, by decide, Tryz.func181.trans (congrArg some (by kernel_rfl))⟩
  f57 := ⟨Tryz.f190.name, by decide, Tryz.func190.trans (congrArg some (by kernel_rfl))⟩
  t0 := Tryz.underlying0
  a0 := Tryz.isAgg0
  z0 := Tryz.sizeOf0
  v0 := Tryz.zeroValue0
  t3 := Tryz.underlying3
  a3 := Tryz.isAgg3
  z3 := Tryz.sizeOf3
  v3 := Tryz.zeroValue3
  t4 := Tryz.underlying4
  a4 := Tryz.isAgg4
  z4 := Tryz.sizeOf4
  v4 := Tryz.zeroValue4
  t5 := Tryz.underlying5
  a5 := Tryz.isAgg5
  z5 := Tryz.sizeOf5
  v5 := Tryz.zeroValue5
  t9 := Tryz.underlying9
  a9 := Tryz.isAgg9
  z9 := Tryz.sizeOf9
  v9 := Tryz.zeroValue9
  t22 := Tryz.underlying28
  a22 := Tryz.isAgg28
  z22 := Tryz.sizeOf28
  v22 := Tryz.zeroValue28
  t25 := Tryz.underlying91
  a25 := Tryz.isAgg91
  z25 := Tryz.sizeOf91
  v25 := Tryz.zeroValue91
  t39 := Tryz.underlying133
  a39 := Tryz.isAgg133
  z39 := Tryz.sizeOf133
  v39 := Tryz.zeroValue133
  t45 := Tryz.underlying186
  a45 := Tryz.isAgg186
  z45 := Tryz.sizeOf186
  v45 := Tryz.zeroValue186
  t46 := Tryz.underlying187
  a46 := Tryz.isAgg187
  z46 := Tryz.sizeOf187
  v46 := Tryz.zeroValue187
  t50 := Tryz.underlying140
  a50 := Tryz.isAgg140
  z50 := Tryz.sizeOf140
  v50 := Tryz.zeroValue140
  t53 := Tryz.underlying193
  a53 := Tryz.isAgg193
  z53 := Tryz.sizeOf193
  v53 := Tryz.zeroValue193
  t55 := Tryz.underlying43
  a55 := Tryz.isAgg43
  z55 := Tryz.sizeOf43
  v55 := Tryz.zeroValue43
  t66 := Tryz.underlying223
  a66 := Tryz.isAgg223
  z66 := Tryz.sizeOf223
  v66 := Tryz.zeroValue223
  t70 := Tryz.underlying226
  a70 := Tryz.isAgg226
  z70 := Tryz.sizeOf226
  v70 := Tryz.zeroValue226
  t76 := Tryz.underlying241
  a76 := Tryz.isAgg241
  z76 := Tryz.sizeOf241
  v76 := Tryz.zeroValue241
  t77 := Tryz.underlying38
  a77 := Tryz.isAgg38
  z77 := Tryz.sizeOf38
  v77 := Tryz.zeroValue38 }
end Go.Proofs
end

section
namespace Go.Proofs
open Go.Shelf
def Tryz.lays128_ren : Go.Shelf.Ren := ⟨fun | 128 => 149 | n => n, fun | 51 => 193 | 3 => 3 | 4 => 4 | 46 => 133 | 5 => 5 | 9 => 9 | n => n, fun | n => n⟩
theorem Tryz.lays128 : Go.Proofs.Lays.n128 Tryz.prog Tryz.lays128_ren := {
  mixed := by kernel_rfl
  f128 := Tryz.func149.trans (congrArg some (by kernel_rfl))
  t3 := Tryz.underlying3
  a3 := Tryz.isAgg3
  z3 := Tryz.sizeOf3
  v3 := Tryz.zeroValue3
  t4 := Tryz.underlying4
  a4 := Tryz.isAgg4
  z4 := Tryz.sizeOf4
  v4 := Tryz.zeroValue4
  t5 := Tryz.underlying5
  a5 := Tryz.isAgg5
  z5 := Tryz.sizeOf5
  v5 := Tryz.zeroValue5
  t9 := Tryz.underlying9
  a9 := Tryz.isAgg9
  z9 := Tryz.sizeOf9
  v9 := Tryz.zeroValue9
  t46 := Tryz.underlying133
  a46 := Tryz.isAgg133
  z46 := Tryz.sizeOf133
  v46 := Tryz.zeroValue133
  t51 := Tryz.underlying193
  a51 := Tryz.isAgg193
  z51 := Tryz.sizeOf193
  v51 := Tryz.zeroValue193 }
/-- bits.Len32: "Len32 returns the minimum number of bits required to represent x; the result is 0 for x == 0.": IT RETURNS 'Lib.bitLen x'; the world is as it was. ('h0', 'h1': x is a uint32.) (LAID: no walk: one application.) -/
theorem Tryz.bits_Len32 (x : Int) (w : World) (h0 : 0 ≤ x) (h1 : x ≤ 4294967295) :
    Calls Tryz.prog 149 #[.int .u32 x] w fun e w' => e = .returned (.int .i64 (Lib.bitLen x.toNat)) ∧ w' = w := Any.bits_Len32 Tryz.lays128 x w h0 h1
def Tryz.lays125_ren : Go.Shelf.Ren := ⟨fun | 125 => 98 | 128 => 149 | 129 => 150 | n => n, fun | 46 => 133 | 3 => 3 | 51 => 193 | 53 => 43 | 4 => 4 | 5 => 5 | 9 => 9 | n => n, fun | n => n⟩
theorem Tryz.lays125 : Go.Proofs.Lays.n125 Tryz.prog Tryz.lays125_ren := {
  mixed := by kernel_rfl
  f125 := Tryz.func98.trans (congrArg some (by kernel_rfl))
  f128 := Tryz.func149.trans (congrArg some (by kernel_rfl))
  f129 := Tryz.func150.trans (congrArg some (by kernel_rfl))
  t3 := Tryz.underlying3
  a3 := Tryz.isAgg3
  z3 := Tryz.sizeOf3
  v3 := Tryz.zeroValue3
  t4 := Tryz.underlying4
  a4 := Tryz.isAgg4
  z4 := Tryz.sizeOf4
  v4 := Tryz.zeroValue4
  t5 := Tryz.underlying5
  a5 := Tryz.isAgg5
  z5 := Tryz.sizeOf5
  v5 := Tryz.zeroValue5
  t9 := Tryz.underlying9
  a9 := Tryz.isAgg9
  z9 := Tryz.sizeOf9
  v9 := Tryz.zeroValue9
  t46 := Tryz.underlying133
  a46 := Tryz.isAgg133
  z46 := Tryz.sizeOf133
  v46 := Tryz.zeroValue133
  t51 := Tryz.underlying193
  a51 := Tryz.isAgg193
  z51 := Tryz.sizeOf193
  v51 := Tryz.zeroValue193
  t53 := Tryz.underlying43
  a53 := Tryz.isAgg43
  z53 := Tryz.sizeOf43
  v53 := Tryz.zeroValue43 }
/-- bits.Len: "Len returns the minimum number of bits required to represent x; the result is 0 for x == 0.": IT RETURNS 'Lib.bitLen x'; the world is as it was. (A uint has 64 bits in the model.) ITS CALLEE bits.Len64 IS MET BY ITS OWN CONTRACT OFF THE SHELF (lay that first). (LAID: no walk: one application.) -/
theorem Tryz.bits_Len (x : Int) (w : World) (h0 : 0 ≤ x) (h1 : x ≤ 18446744073709551615) :
    Calls Tryz.prog 98 #[.int .u64 x] w fun e w' => e = .returned (.int .i64 (Lib.bitLen x.toNat)) ∧ w' = w := Any.bits_Len Tryz.lays125 x w h0 h1
def Tryz.lays215_ren : Go.Shelf.Ren := ⟨fun | 215 => 188 | n => n, fun | 3 => 3 | 4 => 4 | n => n, fun | n => n⟩
theorem Tryz.lays215 : Go.Proofs.Lays.n215 Tryz.prog Tryz.lays215_ren := {
  mixed := by kernel_rfl
  f215 := Tryz.func188.trans (congrArg some (by kernel_rfl))
  t3 := Tryz.underlying3
  a3 := Tryz.isAgg3
  z3 := Tryz.sizeOf3
  v3 := Tryz.zeroValue3
  t4 := Tryz.underlying4
  a4 := Tryz.isAgg4
  z4 := Tryz.sizeOf4
  v4 := Tryz.zeroValue4 }
open Go.RowKit in
/-- cmp.isNaN at int: 'x != x': false. (LAID: no walk: one application.) -/
theorem Tryz.cmp_isNaN_int (x : Int) (w : World) :
    Calls Tryz.prog 188 #[.int .i64 x] w fun e w' => e = .returned (.bool false) ∧ w' = w := Any.cmp_isNaN_int Tryz.lays215 x w
def Tryz.lays122_ren : Go.Shelf.Ren := ⟨fun | 122 => 172 | 215 => 188 | n => n, fun | 3 => 3 | 4 => 4 | n => n, fun | n => n⟩
theorem Tryz.lays122 : Go.Proofs.Lays.n122 Tryz.prog Tryz.lays122_ren := {
  mixed := by kernel_rfl
  f122 := Tryz.func172.trans (congrArg some (by kernel_rfl))
  f215 := Tryz.func188.trans (congrArg some (by kernel_rfl))
  t3 := Tryz.underlying3
  a3 := Tryz.isAgg3
  z3 := Tryz.sizeOf3
  v3 := Tryz.zeroValue3
  t4 := Tryz.underlying4
  a4 := Tryz.isAgg4
  z4 := Tryz.sizeOf4
  v4 := Tryz.zeroValue4 }
open Go.RowKit in
/-- cmp.Compare at int: "Compare returns -1 if x is less than y, 0 if x equals y, +1 if x is greater than y.": IT RETURNS 'Lib.compareInt x y'; the world is as it was. (LAID: no walk: one application.) -/
theorem Tryz.cmp_Compare_int (x y : Int) (w : World) :
    Calls Tryz.prog 172 #[.int .i64 x, .int .i64 y] w fun e w' => e = .returned (.int .i64 (Lib.compareInt x y)) ∧ w' = w := Any.cmp_Compare_int Tryz.lays122 x y w
def Tryz.lays129_ren : Go.Shelf.Ren := ⟨fun | 129 => 150 | n => n, fun | 53 => 43 | 3 => 3 | 4 => 4 | 46 => 133 | 5 => 5 | 9 => 9 | n => n, fun | n => n⟩
theorem Tryz.lays129 : Go.Proofs.Lays.n129 Tryz.prog Tryz.lays129_ren := {
  mixed := by kernel_rfl
  f129 := Tryz.func150.trans (congrArg some (by kernel_rfl))
  t3 := Tryz.underlying3
  a3 := Tryz.isAgg3
  z3 := Tryz.sizeOf3
  v3 := Tryz.zeroValue3
  t4 := Tryz.underlying4
  a4 := Tryz.isAgg4
  z4 := Tryz.sizeOf4
  v4 := Tryz.zeroValue4
  t5 := Tryz.underlying5
  a5 := Tryz.isAgg5
  z5 := Tryz.sizeOf5
  v5 := Tryz.zeroValue5
  t9 := Tryz.underlying9
  a9 := Tryz.isAgg9
  z9 := Tryz.sizeOf9
  v9 := Tryz.zeroValue9
  t46 := Tryz.underlying133
  a46 := Tryz.isAgg133
  z46 := Tryz.sizeOf133
  v46 := Tryz.zeroValue133
  t53 := Tryz.underlying43
  a53 := Tryz.isAgg43
  z53 := Tryz.sizeOf43
  v53 := Tryz.zeroValue43 }
/-- bits.Len64: "Len64 returns the minimum number of bits required to represent x; the result is 0 for x == 0.": IT RETURNS 'Lib.bitLen x'; the world is as it was. ('h0', 'h1': x is a uint64.) (LAID: no walk: one application.) -/
theorem Tryz.bits_Len64 (x : Int) (w : World) (h0 : 0 ≤ x) (h1 : x ≤ 18446744073709551615) :
    Calls Tryz.prog 150 #[.int .u64 x] w fun e w' => e = .returned (.int .i64 (Lib.bitLen x.toNat)) ∧ w' = w := Any.bits_Len64 Tryz.lays129 x w h0 h1
def Tryz.lays111_ren : Go.Shelf.Ren := ⟨fun | 111 => 27 | n => n, fun | 28 => 48 | 3 => 3 | 4 => 4 | 0 => 0 | n => n, fun | n => n⟩
theorem Tryz.lays111 : Go.Proofs.Lays.n111 Tryz.prog Tryz.lays111_ren := {
  mixed := by kernel_rfl
  f111 := Tryz.func27.trans (congrArg some (by kernel_rfl))
  t0 := Tryz.underlying0
  a0 := Tryz.isAgg0
  z0 := Tryz.sizeOf0
  v0 := Tryz.zeroValue0
  t3 := Tryz.underlying3
  a3 := Tryz.isAgg3
  z3 := Tryz.sizeOf3
  v3 := Tryz.zeroValue3
  t4 := Tryz.underlying4
  a4 := Tryz.isAgg4
  z4 := Tryz.sizeOf4
  v4 := Tryz.zeroValue4
  t28 := Tryz.underlying48
  a28 := Tryz.isAgg48
  z28 := Tryz.sizeOf48
  v28 := Tryz.zeroValue48 }
open Go.RowKit Go.Lib in
/-- slices.Equal at []int: "Equal reports whether two slices are equal: the same length and all elements equal. If the lengths are different, Equal returns false. Otherwise, the elements are compared in increasing index order, and the comparison stops at the first unequal pair. Empty and nil slices are considered equal.": IT RETURNS WHETHER THE TWO LISTS OF ELEMENTS ARE ONE; the world is as it was but for the count of draws (the test 's1[i] != s2[i]' has two reads, whose order the model draws, once a round). 'xs', 'ys': what the cells behind the two addresses hold (the spare capacity too, if you have it); 'xs.take n', 'ys.take m': the elements. THE TWO SLICES MAY OVERLAP. (LAID: no walk: one application.) -/
theorem Tryz.slices_Equal_int (b1 o1 n c b2 o2 m d : Nat) (xs ys : List Int) (w : World) (hx : n ≤ xs.length) (hy : m ≤ ys.length) (hbig : n ≤ 9223372036854775807) (hbig2 : m ≤ 9223372036854775807) (hc1 : ∀ j, j < xs.length → w.cell? ⟨b1, o1 + j, none⟩ = some (.int .i64 (xs.getD j 0))) (hc2 : ∀ j, j < ys.length → w.cell? ⟨b2, o2 + j, none⟩ = some (.int .i64 (ys.getD j 0))) :
    Calls Tryz.prog 27 #[.slice (some ⟨b1, o1, none⟩) n c, .slice (some ⟨b2, o2, none⟩) m d] w fun e w' => e = .returned (.bool (xs.take n == ys.take m)) ∧ ∃ q, w' = w.drewN q := Any.slices_Equal_int Tryz.lays111 b1 o1 n c b2 o2 m d xs ys w hx hy hbig hbig2 hc1 hc2
open Go.RowKit Go.Lib in
/-- The same where the first is of length 0 (a nil one too): no cell is asked for. (LAID: no walk: one application.) -/
theorem Tryz.slices_Equal_int_empty (a1 a2 : Option Addr) (c m d : Nat) (w : World) (hbig2 : m ≤ 9223372036854775807) :
    Calls Tryz.prog 27 #[.slice a1 0 c, .slice a2 m d] w fun e w' => e = .returned (.bool (decide (m = 0))) ∧ w' = w := Any.slices_Equal_int_empty Tryz.lays111 a1 a2 c m d w hbig2
def Tryz.laysNm237_ren : Go.Shelf.Ren := ⟨fun | 37 => 188 | n => n, fun | 3 => 3 | 4 => 4 | n => n, fun | n => n⟩
theorem Tryz.laysNm237 : Go.Proofs.Lays2.n37 Tryz.prog Tryz.laysNm237_ren := {
  mixed := by kernel_rfl
  f37 := Tryz.func188.trans (congrArg some (by kernel_rfl))
  t3 := Tryz.underlying3
  a3 := Tryz.isAgg3
  z3 := Tryz.sizeOf3
  v3 := Tryz.zeroValue3
  t4 := Tryz.underlying4
  a4 := Tryz.isAgg4
  z4 := Tryz.sizeOf4
  v4 := Tryz.zeroValue4 }
open Go.RowKit Go.Lib in
/-- cmp.isNaN[int]: 'x != x': false. (LAID: no walk: one application.) -/
theorem Tryz.cmp_isNaN_int2 (x : Int) (w : World) :
    Calls Tryz.prog 188 #[.int .i64 x] w fun e w' => e = .returned (.bool false) ∧ w' = w := Any.cmp_isNaN_int2 Tryz.laysNm237 x w
open Go.RowKit Go.Lib in
theorem Tryz.slices_Equal_int_lens (a1 a2 : Option Addr) (n c m d : Nat) (w : World) (hnm : n ≠ m) :
    Calls Tryz.prog 27 #[.slice a1 n c, .slice a2 m d] w fun e w' => e = .returned (.bool false) ∧ w' = w := Any.slices_Equal_int_lens Tryz.lays111 a1 a2 n c m d w hnm
end Go.Proofs
end

section
namespace Go.Proofs.YtlkchfhcfccaoaaGreatDoor
open Go.RowKit
set_option linter.unusedVariables false

theorem isNaN_any (x : Nat) (w : World) : Calls Tryz.prog 99 #[.int .u64 x] w fun e w' => e = .returned (.bool false) ∧ w' = w := by
  go_enter Tryz.func99, Tryz.ntmps99
  go_wp2
  go_ret
  exact ⟨by simp, rfl⟩

theorem cmp_any (x y : Nat) (w : World) : Calls Tryz.prog 54 #[.int .u64 x, .int .u64 y] w fun e w' => e = .returned (.int .i64 (Lib.compareInt (x : Int) (y : Int))) ∧ w' = w := by
  unfold Lib.compareInt
  by_cases h1 : x < y
  · rw [if_pos (by omega)]
    go_enter Tryz.func54, Tryz.ntmps54
    go_wp2_with (go_at_call 99; refine (isNaN_any _ _).mono ?_; rintro e w1 ⟨rfl, rfl⟩)
    go_ret
    exact ⟨rfl, rfl⟩
  · rw [if_neg (by omega)]
    by_cases h2 : y < x
    · rw [if_pos (by omega)]
      go_enter Tryz.func54, Tryz.ntmps54
      go_wp2_with (go_at_call 99; refine (isNaN_any _ _).mono ?_; rintro e w1 ⟨rfl, rfl⟩)
      go_ret
      exact ⟨rfl, rfl⟩
    · rw [if_neg (by omega)]
      go_enter Tryz.func54, Tryz.ntmps54
      go_wp2_with (go_at_call 99; refine (isNaN_any _ _).mono ?_; rintro e w1 ⟨rfl, rfl⟩)
      go_ret
      exact ⟨rfl, rfl⟩

end Go.Proofs.YtlkchfhcfccaoaaGreatDoor
end
