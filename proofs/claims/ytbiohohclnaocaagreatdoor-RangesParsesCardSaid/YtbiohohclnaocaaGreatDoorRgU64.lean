/-
  Slices of numbers of 64 bits and slices of lists in memory; appends to slices of the call's own, whatever the element.
-/
import Derived.Test.YtbiohohclnaocaaGreatDoorRgBase
import Derived.Deep.AppendLies
import Derived.RegionTactic
import Derived.OwnWalk
namespace Go.Proofs.YtbiohohclnaocaaGreatDoor
open Go.RowKit
set_option linter.unusedVariables false

/-- The cells at an address: n elements of sz cells. -/
def Rd (w : World) (sz : Nat) (A : Option Addr) (n : Nat) (xs : List Value) : Prop :=
  xs.length = n * sz ∧ (0 < n → ∃ b o, A = some ⟨b, o, none⟩ ∧ ∀ j u, xs[j]? = some u → w.cell? ⟨b, o + j, none⟩ = some u)

theorem Rd.below {w w' : World} {sz n : Nat} {A : Option Addr} {xs : List Value} (h : Rd w sz A n xs) (hb : Below w.heap.size w w') : Rd w' sz A n xs :=
  ⟨h.1, fun hn => by
    obtain ⟨b, o, e, hc⟩ := h.2 hn
    refine ⟨b, o, e, fun j u hu => ?_⟩
    have := hc j u hu
    exact (hb.cell (p := ⟨b, o + j, none⟩) (cell_lt this)).trans this⟩

theorem Rd.own {w : World} {base sz n c : Nat} {e : TypeId} {A : Option Addr} {xs : List Value} (h : w.ownsRow base e sz (.slice A n c) n xs) : Rd w sz A n xs := by
  refine ⟨h.1, fun hn => ?_⟩
  obtain ⟨g, cap, hv, _, hlt⟩ := h.form hn
  have hA : A = some ⟨g, 0, none⟩ := by injection hv
  subst hA
  refine ⟨g, 0, rfl, fun j u hu => ?_⟩
  have := h.cells (g := g) rfl j u hu
  rwa [add_at] at this

theorem Rd.news {w : World} {sz n : Nat} {x : Addr} {xs : List Value} (h : Rd w sz (some x) n xs) (hz : 0 < sz) : ∀ j u, xs[j]? = some u → w.cell? (x.add j) = some u := by
  intro j u hu
  have hn : 0 < n := by
    refine Nat.pos_of_ne_zero fun h0 => ?_
    subst h0
    have : xs = [] := List.eq_nil_of_length_eq_zero (by simpa using h.1)
    rw [this] at hu; simp at hu
  obtain ⟨b, o, e, hc⟩ := h.2 hn
  cases e
  rw [add_at]
  exact hc j u hu

theorem run_append_none' {P : Program} (w : World) (base : Nat) (t ty e : TypeId) (i : TypeInfo) (size : Nat) (ht : P.underlying t = some (.slice e)) (hi : P.info? e = some i)
    (v : Value) (n : Nat) (xs : List Value) (hown : w.ownsRow base e size v n xs) (c : Nat) : (Builtin.append_ #[t, t] ty #[v, .slice none 0 c]).run P w = .ok v w := by
  rcases hown.2 with ⟨rfl, rfl⟩ | ⟨g, cap, cur, rfl, _, _, hnc, _⟩
  · simp [Builtin.append_, run_underlying ht, sizeOf, typeInfo, hi, Builtin.lenOf, Builtin.firstCells]
  · simp [Builtin.append_, run_underlying ht, sizeOf, typeInfo, hi, Builtin.lenOf, Builtin.firstCells, hnc, storeCells]

/-- append(v, s...): v the call's own. -/
theorem run_append_rd {P : Program} {w : World} (base : Nat) (t ty e : TypeId) (z : Value) (size bytes : Nat) (ht : P.underlying t = some (.slice e))
    (hinfo : (P.info? e).map (fun i => (i.zero, i.size, i.bytes)) = some (some z, size, bytes)) (hzs : z.cells.size = size) (hsz : 0 < size)
    (v : Value) (n : Nat) (xs : List Value) (hown : w.ownsRow base e size v n xs) (A : Option Addr) (m c : Nat) (news : List Value) (hr : Rd w size A m news) (h1 : ∀ u ∈ news, u.oneCell' = true)
    (hlen : n + m ≤ maxLen) (hbytes : (n + m) * bytes ≤ 140737488355328) (hbase : base ≤ w.heap.size) :
    ∃ v' w', (Builtin.append_ #[t, t] ty #[v, .slice A m c]).run P w = .ok v' w' ∧ w'.ownsRow base e size v' (n + m) (xs ++ news) ∧ w.grownBy w' v.ownBlock := by
  obtain ⟨i, hi, hz, hs, hby⟩ := info_parts hinfo
  rcases A with _ | x
  · have hm : m = 0 := by
      rcases Nat.eq_zero_or_pos m with h0 | h0
      · exact h0
      · obtain ⟨b, o, h, _⟩ := hr.2 h0; cases h
    subst hm
    have hn : news = [] := List.eq_nil_of_length_eq_zero (by simpa using hr.1)
    subst hn
    exact ⟨v, w, run_append_none' w base t ty e i size ht hi v n xs hown c, by simpa using hown, World.grownBy.refl w _⟩
  · obtain ⟨v', w', hrun, ho, hg, _⟩ := run_append_own (P := P) w base t ty e i z size bytes ht hi hz hs hby hzs hsz v n xs hown x m c news hr.1 (hr.news hsz) h1 hlen hbytes hbase
    exact ⟨v', w', hrun, ho, hg⟩

/-- The step law of an append whose run is known: for a region that draws its order. -/
theorem step_append_hr {P : Program} {w : World} {ops : Array Oper} {o : Oper} {a : Act} {K : Act → World → Prop} {Q : Exit → Act → World → Prop} {E : Prop} (hgd : o.guard = none) (s x : Operand) (t : TypeId)
    (ho : o.op = .call { callee := .builtin .append, args := #[s, x], argTypes := #[t, t] })
    (v u : Value) (hs : a.eval s = v) (hx : a.eval x = u) (v' : Value) (w' : World) (hrun : (Builtin.append_ #[t, t] o.type #[v, u]).run P w = .ok v' w')
    (h : K (a.put o.dst v') w') : if Region.wanted o (yielded ops a.tmps) = true then Oper.wp P o a w K Q else E := by
  have hw : Region.wanted o (yielded ops a.tmps) = true := by simp [Region.wanted, hgd]
  rw [if_pos hw]
  unfold Oper.wp
  simp [execOp, ho, resolve, invoke, builtin, hs, hx, hrun, Result.andThen]
  exact h

/-- A prefix of a slice of the call's own. -/
theorem own_take {w : World} {base size n c g : Nat} {e : TypeId} {xs : List Value} (h : w.ownsRow base e size (.slice (some ⟨g, 0, none⟩) n c) n xs) (k : Nat) (hk : k ≤ n) : w.ownsRow base e size (.slice (some ⟨g, 0, none⟩) k c) k (xs.take (k * size)) := by
  have h1 := h.1
  rcases h.2 with ⟨h', _⟩ | ⟨g', cap', cur, h', hb, hg, hnc, hcm, hcs, htake⟩
  · simp at h'
  · simp only [Value.slice.injEq, Option.some.injEq, Addr.mk.injEq, and_true, true_and] at h'
    obtain ⟨rfl, rfl⟩ := h'
    have hks : k * size ≤ n * size := Nat.mul_le_mul_right _ hk
    refine ⟨by rw [List.length_take, h1]; omega, .inr ⟨g, c, cur, rfl, hb, hg, by omega, hcm, hcs, ?_⟩⟩
    rw [← htake, List.take_take]
    congr 1
    omega

/-! Numbers. -/
structure U64s (w : World) (a : Option Addr) (n cap : Nat) (l : List Nat) : Prop where
  len : l.length = n
  lt : ∀ x ∈ l, x < 18446744073709551616
  room : n ≤ cap
  most : cap ≤ 9223372036854775807
  nilc : a = none → cap = 0
  cells : 0 < n → ∃ b o, a = some ⟨b, o, none⟩ ∧ ∀ i, i < n → w.cell? ⟨b, o + i, none⟩ = some (.int .u64 ((nth l i : Nat) : Int))

def u64C (l : List Nat) : List Value := l.map fun x => Value.int .u64 ((x : Nat) : Int)
theorem u64C_append (a b : List Nat) : u64C (a ++ b) = u64C a ++ u64C b := by simp [u64C]
theorem u64C_length (a : List Nat) : (u64C a).length = a.length := by simp [u64C]
theorem u64C_get (l : List Nat) (i : Nat) (h : i < l.length) : (u64C l)[i]? = some (.int .u64 ((nth l i : Nat) : Int)) := by simp [u64C, nth, h]
theorem u64C_take (l : List Nat) (k : Nat) : (u64C l).take k = u64C (l.take k) := by simp [u64C, List.map_take]
theorem u64C_drop (l : List Nat) (k : Nat) : (u64C l).drop k = u64C (l.drop k) := by simp [u64C, List.map_drop]
theorem u64C_one (l : List Nat) : ∀ u ∈ u64C l, u.oneCell' = true := by
  intro u hu
  simp only [u64C, List.mem_map] at hu
  obtain ⟨x, _, rfl⟩ := hu
  rfl

theorem U64s.below {w w' : World} {a : Option Addr} {n cap : Nat} {l : List Nat} (h : U64s w a n cap l) (hb : Below w.heap.size w w') : U64s w' a n cap l := by
  refine ⟨h.len, h.lt, h.room, h.most, h.nilc, fun hn => ?_⟩
  obtain ⟨b, o, ha, hc⟩ := h.cells hn
  refine ⟨b, o, ha, fun i hi => ?_⟩
  have := hc i hi
  exact (hb.cell (p := ⟨b, o + i, none⟩) (cell_lt this)).trans this

theorem U64s.rd {w : World} {a : Option Addr} {n cap : Nat} {l : List Nat} (h : U64s w a n cap l) : Rd w 1 a n (u64C l) := by
  refine ⟨by rw [u64C_length, h.len]; omega, fun hn => ?_⟩
  obtain ⟨b, o, e, hc⟩ := h.cells hn
  refine ⟨b, o, e, fun j u hu => ?_⟩
  have hj : j < l.length := by
    rcases Nat.lt_or_ge j l.length with h' | h'
    · exact h'
    · rw [List.getElem?_eq_none (by rw [u64C_length]; exact h')] at hu; cases hu
  rw [u64C_get l j hj] at hu
  cases hu
  exact hc j (by rw [← h.len]; exact hj)

theorem u64s_own {w : World} {base n : Nat} {T : TypeId} {v : Value} {l : List Nat} (h : w.ownsRow base T 1 v n (u64C l)) (hl : ∀ x ∈ l, x < 18446744073709551616) : ∃ a cap, v = .slice a n cap ∧ U64s w a n cap l := by
  have hlen : l.length = n := by have := h.1; rw [u64C_length] at this; omega
  rcases h.2 with ⟨rfl, rfl⟩ | ⟨g, cap, cur, rfl, hg, hh, hnc, hcm, _⟩
  · exact ⟨none, 0, rfl, hlen, hl, by omega, by omega, fun _ => rfl, fun h => by omega⟩
  · refine ⟨_, _, rfl, hlen, hl, hnc, by unfold maxLen at hcm; omega, (by intro h; cases h), fun hn => ⟨g, 0, rfl, fun i hi => ?_⟩⟩
    have hc := h.cells (g := g) rfl i (.int .u64 ((nth l i : Nat) : Int)) (u64C_get l i (by omega))
    rw [add_at] at hc
    exact hc

theorem Ivs.rd {w : World} {a : Option Addr} {n cap : Nat} {l : List Iv} (h : Ivs w a n cap l) : Rd w 2 a n (ivC l) := by
  refine ⟨by rw [ivC_length, h.len], fun hn => ?_⟩
  obtain ⟨b, o, e, hc⟩ := h.cells hn
  refine ⟨b, o, e, fun j u hu => ?_⟩
  have hj : j < l.length * 2 := by
    rcases Nat.lt_or_ge j (l.length * 2) with h' | h'
    · exact h'
    · rw [List.getElem?_eq_none (by rw [ivC_length]; exact h')] at hu; cases hu
  have hi : j / 2 < l.length := by omega
  obtain ⟨e1, e2⟩ := ivC_get l (j / 2) hi
  obtain ⟨c1, c2⟩ := hc (j / 2) (by rw [← h.len]; exact hi)
  rcases Nat.mod_two_eq_zero_or_one j with hm | hm
  · rw [show j / 2 * 2 = j by omega] at e1 c1
    rw [e1] at hu; cases hu; exact c1
  · rw [show j / 2 * 2 + 1 = j by omega] at e2
    rw [show o + j / 2 * 2 + 1 = o + j by omega] at c2
    rw [e2] at hu; cases hu; exact c2

theorem Tryz.info_u64 : (Tryz.prog.info? 24).map (fun i => (i.zero, i.size, i.bytes)) = some (some (.int .u64 0), 1, 8) := by kernel_rfl
theorem Tryz.info_iv : (Tryz.prog.info? 31).map (fun i => (i.zero, i.size, i.bytes)) = some (some (.agg #[.int .u64 0, .int .u64 0]), 2, 16) := by kernel_rfl

/-- append at numbers. -/
theorem run_append_u64 {w : World} (base : Nat) (v : Value) (n : Nat) (xs : List Nat) (hown : w.ownsRow base 24 1 v n (u64C xs)) (A : Option Addr) (m c : Nat) (l : List Nat) (hr : Rd w 1 A m (u64C l)) (hb : n + m ≤ 1000000) (hbase : base ≤ w.heap.size) :
    ∃ v' w', (Builtin.append_ #[75, 75] 75 #[v, .slice A m c]).run Tryz.prog w = .ok v' w' ∧ w'.ownsRow base 24 1 v' (n + m) (u64C (xs ++ l)) ∧ w.grownBy w' v.ownBlock := by
  rw [u64C_append]
  exact run_append_rd base _ _ _ _ 1 8 Tryz.underlying75 Tryz.info_u64 rfl (by omega) v n _ hown A m c _ hr (u64C_one l) (by unfold maxLen; omega) (by omega) hbase

/-- append at intervals. -/
theorem run_append_iv {w : World} (base : Nat) (v : Value) (n : Nat) (xs : List Iv) (hown : w.ownsRow base 31 2 v n (ivC xs)) (A : Option Addr) (m c : Nat) (l : List Iv) (hr : Rd w 2 A m (ivC l)) (hb : n + m ≤ 1000000) (hbase : base ≤ w.heap.size) :
    ∃ v' w', (Builtin.append_ #[23, 23] 23 #[v, .slice A m c]).run Tryz.prog w = .ok v' w' ∧ w'.ownsRow base 31 2 v' (n + m) (ivC (xs ++ l)) ∧ w.grownBy w' v.ownBlock := by
  rw [ivC_append]
  exact run_append_rd base _ _ _ _ 2 16 Tryz.underlying23 Tryz.info_iv rfl (by omega) v n _ hown A m c _ hr (ivC_one l) (by unfold maxLen; omega) (by omega) hbase

/-- A literal of one element, at its address. -/
theorem rd_lit {w : World} {sz : Nat} (C : Array Value) (T : TypeId) (fr : Nat × Nat) (n : Nat) (xs : List Value) (hC : C = xs.toArray) (hx : xs.length = n * sz) : Rd (w.alloc (.cells C T fr)) sz (some ⟨w.heap.size, 0, none⟩) n xs := by
  subst hC
  refine ⟨hx, fun _ => ⟨w.heap.size, 0, rfl, fun j u hu => ?_⟩⟩
  rw [World.cell?_alloc_mark]
  simpa using hu

end Go.Proofs.YtbiohohclnaocaaGreatDoor
