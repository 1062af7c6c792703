/-
  Common words of the walks: a slice of bytes that reads as a list of numbers; appending to a slice of the call's own; what stays behind a call that only makes memory.
-/
import Derived.Test.YtbiohohclnaocaaGreatDoorKList
import Derived.Test.YtbiohohclnaocaaGreatDoorRows
import Derived.WalkKit
import Derived.Lib.Hide
import Derived.Lib.SmallJoins
import Derived.Lib.SlBytesConst
namespace Go.Proofs.YtbiohohclnaocaaGreatDoor
open Go.RowKit
set_option linter.unusedVariables false

/-- The slice with this address, length and capacity reads as the bytes l. -/
structure Byts (w : World) (a : Option Addr) (n cap : Nat) (l : List Nat) : Prop where
  len : l.length = n
  lt : ∀ x ∈ l, x < 256
  room : n ≤ cap
  most : cap ≤ 9223372036854775807
  nilc : a = none → cap = 0
  cells : 0 < n → ∃ b o, a = some ⟨b, o, none⟩ ∧ ∀ i, i < n → w.cell? ⟨b, o + i, none⟩ = some (.int .u8 ((nth l i : Nat) : Int))

theorem cell_lt {w : World} {p : Addr} {v : Value} (h : w.cell? p = some v) : p.block < w.heap.size := by
  rcases Nat.lt_or_ge p.block w.heap.size with h' | h'
  · exact h'
  · simp [World.cell?, Array.getElem?_eq_none h'] at h

theorem Byts.below {w w' : World} {a : Option Addr} {n cap : Nat} {l : List Nat} (h : Byts w a n cap l) (hb : Below w.heap.size w w') : Byts w' a n cap l := by
  refine ⟨h.len, h.lt, h.room, h.most, h.nilc, fun hn => ?_⟩
  obtain ⟨b, o, ha, hc⟩ := h.cells hn
  refine ⟨b, o, ha, fun i hi => ?_⟩
  have := hc i hi
  rw [← this]
  exact hb.cell (p := ⟨b, o + i, none⟩) (cell_lt this)

theorem ret_int {k : IntKind} {a b : Int} (h : a = b) : Ending.returned (.int k a) = .returned (.int k b) := by rw [h]
theorem ret_bool {a b : Bool} (h : a = b) : Ending.returned (.bool a) = .returned (.bool b) := by rw [h]

theorem add_at (b o i : Nat) : ((⟨b, o, none⟩ : Addr).add i) = ⟨b, o + i, none⟩ := by
  unfold Addr.add; split
  · subst_vars; rfl
  · simp

theorem cells_at (w : World) (cs : List Value) (T : TypeId) (j : Nat) (u : Value) (h : cs[j]? = some u) : (w.alloc (.cells cs.toArray T)).cell? ((⟨w.heap.size, 0, none⟩ : Addr).add j) = some u := by
  rw [add_at]
  have h1 : (w.alloc (.cells cs.toArray T)).heap[w.heap.size]? = some (.cells cs.toArray T) := Array.getElem?_push_size
  simp only [World.cell?, h1]
  simpa using h

theorem grownBy_trans {w w1 w2 : World} {row : Option Nat} (h : w.grownBy w1 row) (k : w1.grownBy w2 row) : w.grownBy w2 row :=
  ⟨k.os.trans h.os, k.tape.trans h.tape, k.output.trans h.output, Nat.le_trans h.size k.size, fun i hi hne => (k.block i (Nat.lt_of_lt_of_le hi h.size) hne).trans (h.block i hi hne)⟩

theorem byts_lit (w : World) (b n : Nat) (C : Array Value) (l : List Nat) (T : TypeId) (fr : Nat × Nat) (hb : b = w.heap.size) (hn : l.length = n) (hC : C = (u8s l).toArray) (hl : ∀ x ∈ l, x < 256) (hm : n ≤ 9223372036854775807) :
    Byts (w.alloc (.cells C T fr)) (some ⟨b, 0, none⟩) n n l := by
  subst hb hC
  refine ⟨hn, hl, Nat.le_refl _, hm, (by intro h; cases h), fun _ => ⟨_, _, rfl, fun i hi => ?_⟩⟩
  rw [World.cell?_alloc_mark]
  have hi' : i < l.length := by omega
  simp [u8s, nth, hi']

theorem byts_nil (w : World) : Byts w none 0 0 [] := ⟨rfl, by simp, by omega, by omega, fun _ => rfl, fun h => by omega⟩

theorem byts_own {w : World} {base n : Nat} {T : TypeId} {v : Value} {l : List Nat} (h : w.ownsRow base T 1 v n (u8s l)) (hl : ∀ x ∈ l, x < 256) : ∃ a cap, v = .slice a n cap ∧ Byts w a n cap l := by
  have hlen : l.length = n := by have := h.1; simpa [u8s] using this
  rcases h.2 with ⟨rfl, rfl⟩ | ⟨g, cap, cur, rfl, hg, hh, hnc, hcm, _⟩
  · exact ⟨none, 0, rfl, hlen, hl, by omega, by omega, fun _ => rfl, fun h => by omega⟩
  · refine ⟨_, _, rfl, hlen, hl, hnc, by unfold maxLen at hcm; omega, (by intro h; cases h), fun hn => ⟨g, 0, rfl, fun i hi => ?_⟩⟩
    have hc := h.cells (g := g) rfl i (.int .u8 ((nth l i : Nat) : Int)) (u8s_get l i (by omega))
    rw [add_at] at hc
    exact hc

theorem own_below {w w' : World} {base size n : Nat} {e : TypeId} {v : Value} {xs : List Value} (h : w.ownsRow base e size v n xs) (hb : Below w.heap.size w w') : w'.ownsRow base e size v n xs := by
  refine ⟨h.1, ?_⟩
  rcases h.2 with h | ⟨g, cap, cur, hv, hg, hh, r⟩
  · exact .inl h
  · exact .inr ⟨g, cap, cur, hv, hg, by rw [hb.block g (Array.getElem?_eq_some_iff.1 hh).1]; exact hh, r⟩

theorem Byts.news {w : World} {x : Addr} {n cap : Nat} {l : List Nat} (h : Byts w (some x) n cap l) : ∀ j u, (u8s l)[j]? = some u → w.cell? (x.add j) = some u := by
  intro j u hu
  have hj : j < l.length := by
    rcases Nat.lt_or_ge j l.length with h' | h'
    · exact h'
    · rw [List.getElem?_eq_none (by rw [u8s_length]; exact h')] at hu; cases hu
  rw [u8s_get l j hj] at hu
  cases hu
  obtain ⟨b, o, ha, hc⟩ := h.cells (by rw [← h.len]; omega)
  cases ha
  rw [add_at]
  exact hc j (by rw [← h.len]; omega)

theorem Tryz.info_u8 : (Tryz.prog.info? 5).map (fun i => (i.zero, i.size, i.bytes)) = some (some (.int .u8 0), 1, 1) := by kernel_rfl

/-- append(v, s...) at bytes: v the call's own, s any slice of bytes that can be read. -/
theorem run_append_byts {w : World} (base : Nat) (v : Value) (n : Nat) (xs : List Value) (hown : w.ownsRow base 5 1 v n xs) (a : Option Addr) (m c : Nat) (l : List Nat) (hB : Byts w a m c l)
    (hbytes : n + m ≤ 140737488355328) (hbase : base ≤ w.heap.size) :
    ∃ v' w', (Builtin.append_ #[89, 89] 89 #[v, .slice a m c]).run Tryz.prog w = .ok v' w' ∧ w'.ownsRow base 5 1 v' (n + m) (xs ++ u8s l) ∧ w.grownBy w' v.ownBlock := by
  obtain ⟨i0, hi, hz0, hz1, hz2⟩ := info_parts Tryz.info_u8
  cases a with
  | none =>
    have hc := hB.nilc rfl
    have hm := hB.room
    obtain rfl : m = 0 := by omega
    subst hc
    have hl : l = [] := List.length_eq_zero_iff.1 hB.len
    subst hl
    refine ⟨v, w, run_append_owned_none _ base _ _ _ i0 1 Tryz.underlying89 hi v n xs hown, by simpa [u8s] using hown, ⟨rfl, rfl, rfl, Nat.le_refl _, fun _ _ _ => rfl⟩⟩
  | some x =>
    obtain ⟨v', w', hr, ho, hg, _⟩ := run_append_own (P := Tryz.prog) w base 89 89 5 i0 (.int .u8 0) 1 1 Tryz.underlying89 hi hz0 hz1 hz2 rfl (by decide) v n xs hown x m c (u8s l)
      (by rw [u8s_length, hB.len]; omega) hB.news (by intro u hu; simp [u8s] at hu; obtain ⟨y, _, rfl⟩ := hu; rfl) (by unfold maxLen; omega) (by omega) hbase
    exact ⟨v', w', hr, ho, hg⟩

/-- An append whose run is known, guarded or not. -/
theorem wpList_append_hr {P : Program} {w : World} {ops : Array Oper} {rest : List Oper} {o : Oper} {a : Act} {Q : Exit → Act → World → Prop} (s x : Operand) (t : TypeId)
    (ho : o.op = .call { callee := .builtin .append, args := #[s, x], argTypes := #[t, t] }) (hw : Region.wanted o (yielded ops a.tmps) = true)
    (v u : Value) (hs : a.eval s = v) (hx : a.eval x = u) (v' : Value) (w' : World) (hrun : (Builtin.append_ #[t, t] o.type #[v, u]).run P w = .ok v' w')
    (h : wpList P ops Q rest (a.put o.dst v') w') : wpList P ops Q (o :: rest) a w := by
  refine wpList_step fun K hK => ?_
  rw [if_pos hw]
  unfold Oper.wp
  simp [execOp, ho, resolve, invoke, builtin, hs, hx, hrun, Result.andThen]
  exact hK _ _ h

/-- append([]byte{}, s...): a copy of its own. -/
theorem run_copy_byts {w : World} (a : Option Addr) (m c : Nat) (l : List Nat) (hB : Byts w a m c l) (hbytes : m ≤ 140737488355328) :
    ∃ v' w', (Builtin.append_ #[89, 89] 89 #[.slice (some ⟨w.heap.size, 0, none⟩) 0 0, .slice a m c]).run Tryz.prog (w.alloc (.cells #[] 5)) = .ok v' w' ∧
      w'.ownsRow w.heap.size 5 1 v' m (u8s l) ∧ Below w.heap.size w w' := by
  have h0 := World.ownsRow_lit (e := 5) (size := 1) (base := w.heap.size) w #[] 0 (Nat.le_refl _) (by unfold maxLen; omega) rfl
  obtain ⟨v', w', hr, ho, hg⟩ := run_append_byts w.heap.size _ 0 [] h0 a m c l (hB.below ((Below.refl _ _).alloc (Nat.le_refl _) _)) (by omega) (by simp)
  refine ⟨v', w', hr, by simpa using ho, ?_⟩
  exact ((Below.refl _ _).alloc (Nat.le_refl _) _).grown hg (by simp) (by intro k hk; simp [Value.ownBlock] at hk; omega)

/-- What the frame of a law tells of a slice of integers that came in. -/
def InRow (k : IntKind) (w : World) (a : Option Addr) (len cap : Nat) (zs : List Int) : Prop :=
  (a = none ∧ len = 0 ∧ cap = 0 ∧ zs = []) ∨
  ∃ x, a = some x ∧ len ≤ cap ∧ cap ≤ maxLen ∧ zs.length = cap ∧ (∀ i, i < zs.length → w.cell? (x.add i) = some (.int k (zs.getD i 0))) ∧ ∀ n ∈ zs, (Lit.int k n).wf = true

theorem u8_bd {n : Int} (h : (Lit.int .u8 n).wf = true) : 0 ≤ n ∧ n < 256 := by
  simp [Lit.wf, IntKind.min, IntKind.max, IntKind.signed, IntKind.bits] at h
  omega

theorem u32_bd {n : Int} (h : (Lit.int .u32 n).wf = true) : ∃ x : Nat, n = (x : Int) ∧ x < 4294967296 := by
  simp [Lit.wf, IntKind.min, IntKind.max, IntKind.signed, IntKind.bits] at h
  exact ⟨n.toNat, by omega, by omega⟩

theorem u16_bd {n : Int} (h : (Lit.int .u16 n).wf = true) : ∃ x : Nat, n = (x : Int) ∧ x < 65536 := by
  simp [Lit.wf, IntKind.min, IntKind.max, IntKind.signed, IntKind.bits] at h
  exact ⟨n.toNat, by omega, by omega⟩

theorem byts_row {w : World} {a : Option Addr} {len cap : Nat} {zs : List Int} (h : InRow .u8 w a len cap zs) : Byts w a len cap ((zs.take len).map Int.toNat) := by
  rcases h with ⟨rfl, rfl, rfl, rfl⟩ | ⟨x, rfl, hl, hm, hz, hc, hw⟩
  · exact byts_nil w
  · refine ⟨by simp; omega, ?_, hl, by unfold maxLen at hm; omega, (by intro h; cases h), fun hn => ?_⟩
    · intro y hy
      simp only [List.mem_map] at hy
      obtain ⟨z, hzm, rfl⟩ := hy
      have := u8_bd (hw z (List.mem_of_mem_take hzm))
      omega
    · have h0 := hc 0 (by omega)
      have hx : x.add 0 = x := rfl
      rw [hx] at h0
      obtain ⟨b, o, sp⟩ := x
      have hsp : sp = none := by
        cases sp with
        | none => rfl
        | some k =>
          unfold World.cell? at h0
          split at h0 <;> simp at h0
      subst hsp
      refine ⟨b, o, rfl, fun i hi => ?_⟩
      have h1 := hc i (by omega)
      rw [add_at] at h1
      rw [h1]
      have hlt : i < zs.length := by omega
      have hb := u8_bd (hw zs[i] (List.getElem_mem hlt))
      have : nth ((zs.take len).map Int.toNat) i = (zs.getD i 0).toNat := by
        simp [nth, hi, hlt]
      rw [this]
      congr 2
      rw [List.getD_eq_getElem?_getD, List.getElem?_eq_getElem hlt]
      simp
      omega

end Go.Proofs.YtbiohohclnaocaaGreatDoor
