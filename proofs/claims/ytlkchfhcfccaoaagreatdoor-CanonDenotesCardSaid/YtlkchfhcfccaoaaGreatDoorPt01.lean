/- Walks and laws, merged: part 1. -/
import Derived.Below
import Derived.Test.YtlkchfhcfccaoaaGreatDoorRows
import Derived.WalkKit
import Derived.Lib.Hide
import Derived.Lib.SmallJoins
import Derived.Lib.SlBytesConst
section
namespace Go.Proofs.YtlkchfhcfccaoaaGreatDoor
open Go.RowKit

/-- An element of a list of numbers, 0 behind its end. -/
def nth (l : List Nat) (k : Nat) : Nat := l.getD k 0

theorem nth_lt {l : List Nat} {B : Nat} (h : ∀ x ∈ l, x < B) (hB : 0 < B) (k : Nat) : nth l k < B := by
  unfold nth
  rw [List.getD_eq_getElem?_getD]
  by_cases hk : k < l.length
  · rw [List.getElem?_eq_getElem hk]; exact h _ (List.getElem_mem hk)
  · rw [List.getElem?_eq_none (by omega)]; exact hB

theorem take_nth (l : List Nat) (k : Nat) (h : k < l.length) : l.take (k + 1) = l.take k ++ [nth l k] := by
  rw [List.take_succ_eq_append_getElem h]
  simp [nth, h]

/-- Bytes as cells. -/
def u8s (l : List Nat) : List Value := l.map fun x => Value.int .u8 ((x : Nat) : Int)

theorem u8s_append (a b : List Nat) : u8s (a ++ b) = u8s a ++ u8s b := by simp [u8s]
theorem u8s_length (a : List Nat) : (u8s a).length = a.length := by simp [u8s]

theorem u8s_get (l : List Nat) (i : Nat) (h : i < l.length) : (u8s l)[i]? = some (.int .u8 ((nth l i : Nat) : Int)) := by simp [u8s, nth, h]

theorem nth_eq_take {l l' : List Nat} {k : Nat} (h : l.take k = l'.take k) (hk : k < l.length) (hk' : k < l'.length) (e : nth l k = nth l' k) : l.take (k + 1) = l'.take (k + 1) := by
  rw [take_nth l k hk, take_nth l' k hk', h, e]

theorem nth_ne {l l' : List Nat} {k : Nat} (e : nth l k ≠ nth l' k) : l ≠ l' := fun h => e (by rw [h])

end Go.Proofs.YtlkchfhcfccaoaaGreatDoor
end

section
namespace Go.Proofs.YtlkchfhcfccaoaaGreatDoor
open Go.RowKit
set_option linter.unusedVariables false

/-- The slice with this address, length and capacity reads as the bytes l. -/
structure Byts (w : World) (a : Option Addr) (n cap : Nat) (l : List Nat) : Prop where
  len : l.length = n
  lt : ∀ x ∈ l, x < 256
  room : n ≤ cap
  most : cap ≤ 9223372036854775807
  nilc : a = none → cap = 0
  cells : 0 < n → ∃ b o, a = some ⟨b, o, none⟩ ∧ ∀ i, i < n → w.cell? ⟨b, o + i, none⟩ = some (.int .u8 ((nth l i : Nat) : Int))

theorem cell_lt {w : World} {p : Addr} {v : Value} (h : w.cell? p = some v) : p.block < w.heap.size := by
  rcases Nat.lt_or_ge p.block w.heap.size with h' | h'
  · exact h'
  · simp [World.cell?, Array.getElem?_eq_none h'] at h

theorem Byts.below {w w' : World} {a : Option Addr} {n cap : Nat} {l : List Nat} (h : Byts w a n cap l) (hb : Below w.heap.size w w') : Byts w' a n cap l := by
  refine ⟨h.len, h.lt, h.room, h.most, h.nilc, fun hn => ?_⟩
  obtain ⟨b, o, ha, hc⟩ := h.cells hn
  refine ⟨b, o, ha, fun i hi => ?_⟩
  have := hc i hi
  rw [← this]
  exact hb.cell (p := ⟨b, o + i, none⟩) (cell_lt this)

theorem ret_int {k : IntKind} {a b : Int} (h : a = b) : Ending.returned (.int k a) = .returned (.int k b) := by rw [h]
theorem ret_bool {a b : Bool} (h : a = b) : Ending.returned (.bool a) = .returned (.bool b) := by rw [h]

theorem add_at (b o i : Nat) : ((⟨b, o, none⟩ : Addr).add i) = ⟨b, o + i, none⟩ := by
  unfold Addr.add; split
  · subst_vars; rfl
  · simp

theorem cells_at (w : World) (cs : List Value) (T : TypeId) (j : Nat) (u : Value) (h : cs[j]? = some u) : (w.alloc (.cells cs.toArray T)).cell? ((⟨w.heap.size, 0, none⟩ : Addr).add j) = some u := by
  rw [add_at]
  have h1 : (w.alloc (.cells cs.toArray T)).heap[w.heap.size]? = some (.cells cs.toArray T) := Array.getElem?_push_size
  simp only [World.cell?, h1]
  simpa using h

theorem grownBy_trans {w w1 w2 : World} {row : Option Nat} (h : w.grownBy w1 row) (k : w1.grownBy w2 row) : w.grownBy w2 row :=
  ⟨k.os.trans h.os, k.tape.trans h.tape, k.output.trans h.output, Nat.le_trans h.size k.size, fun i hi hne => (k.block i (Nat.lt_of_lt_of_le hi h.size) hne).trans (h.block i hi hne)⟩

theorem byts_lit (w : World) (b n : Nat) (C : Array Value) (l : List Nat) (T : TypeId) (fr : Nat × Nat) (hb : b = w.heap.size) (hn : l.length = n) (hC : C = (u8s l).toArray) (hl : ∀ x ∈ l, x < 256) (hm : n ≤ 9223372036854775807) :
    Byts (w.alloc (.cells C T fr)) (some ⟨b, 0, none⟩) n n l := by
  subst hb hC
  refine ⟨hn, hl, Nat.le_refl _, hm, (by intro h; cases h), fun _ => ⟨_, _, rfl, fun i hi => ?_⟩⟩
  rw [World.cell?_alloc_mark]
  have hi' : i < l.length := by omega
  simp [u8s, nth, hi']

theorem byts_nil (w : World) : Byts w none 0 0 [] := ⟨rfl, by simp, by omega, by omega, fun _ => rfl, fun h => by omega⟩

theorem byts_own {w : World} {base n : Nat} {T : TypeId} {v : Value} {l : List Nat} (h : w.ownsRow base T 1 v n (u8s l)) (hl : ∀ x ∈ l, x < 256) : ∃ a cap, v = .slice a n cap ∧ Byts w a n cap l := by
  have hlen : l.length = n := by have := h.1; simpa [u8s] using this
  rcases h.2 with ⟨rfl, rfl⟩ | ⟨g, cap, cur, rfl, hg, hh, hnc, hcm, _⟩
  · exact ⟨none, 0, rfl, hlen, hl, by omega, by omega, fun _ => rfl, fun h => by omega⟩
  · refine ⟨_, _, rfl, hlen, hl, hnc, by unfold maxLen at hcm; omega, (by intro h; cases h), fun hn => ⟨g, 0, rfl, fun i hi => ?_⟩⟩
    have hc := h.cells (g := g) rfl i (.int .u8 ((nth l i : Nat) : Int)) (u8s_get l i (by omega))
    rw [add_at] at hc
    exact hc

theorem own_below {w w' : World} {base size n : Nat} {e : TypeId} {v : Value} {xs : List Value} (h : w.ownsRow base e size v n xs) (hb : Below w.heap.size w w') : w'.ownsRow base e size v n xs := by
  refine ⟨h.1, ?_⟩
  rcases h.2 with h | ⟨g, cap, cur, hv, hg, hh, r⟩
  · exact .inl h
  · exact .inr ⟨g, cap, cur, hv, hg, by rw [hb.block g (Array.getElem?_eq_some_iff.1 hh).1]; exact hh, r⟩

theorem Byts.news {w : World} {x : Addr} {n cap : Nat} {l : List Nat} (h : Byts w (some x) n cap l) : ∀ j u, (u8s l)[j]? = some u → w.cell? (x.add j) = some u := by
  intro j u hu
  have hj : j < l.length := by
    rcases Nat.lt_or_ge j l.length with h' | h'
    · exact h'
    · rw [List.getElem?_eq_none (by rw [u8s_length]; exact h')] at hu; cases hu
  rw [u8s_get l j hj] at hu
  cases hu
  obtain ⟨b, o, ha, hc⟩ := h.cells (by rw [← h.len]; omega)
  cases ha
  rw [add_at]
  exact hc j (by rw [← h.len]; omega)

theorem Tryz.info_u8 : (Tryz.prog.info? 5).map (fun i => (i.zero, i.size, i.bytes)) = some (some (.int .u8 0), 1, 1) := by kernel_rfl

/-- An append whose run is known, guarded or not. -/
theorem wpList_append_hr {P : Program} {w : World} {ops : Array Oper} {rest : List Oper} {o : Oper} {a : Act} {Q : Exit → Act → World → Prop} (s x : Operand) (t : TypeId)
    (ho : o.op = .call { callee := .builtin .append, args := #[s, x], argTypes := #[t, t] }) (hw : Region.wanted o (yielded ops a.tmps) = true)
    (v u : Value) (hs : a.eval s = v) (hx : a.eval x = u) (v' : Value) (w' : World) (hrun : (Builtin.append_ #[t, t] o.type #[v, u]).run P w = .ok v' w')
    (h : wpList P ops Q rest (a.put o.dst v') w') : wpList P ops Q (o :: rest) a w := by
  refine wpList_step fun K hK => ?_
  rw [if_pos hw]
  unfold Oper.wp
  simp [execOp, ho, resolve, invoke, builtin, hs, hx, hrun, Result.andThen]
  exact hK _ _ h

/-- What the frame of a law tells of a slice of integers that came in. -/
def InRow (k : IntKind) (w : World) (a : Option Addr) (len cap : Nat) (zs : List Int) : Prop :=
  (a = none ∧ len = 0 ∧ cap = 0 ∧ zs = []) ∨
  ∃ x, a = some x ∧ len ≤ cap ∧ cap ≤ maxLen ∧ zs.length = cap ∧ (∀ i, i < zs.length → w.cell? (x.add i) = some (.int k (zs.getD i 0))) ∧ ∀ n ∈ zs, (Lit.int k n).wf = true

theorem u8_bd {n : Int} (h : (Lit.int .u8 n).wf = true) : 0 ≤ n ∧ n < 256 := by
  simp [Lit.wf, IntKind.min, IntKind.max, IntKind.signed, IntKind.bits] at h
  omega

theorem u32_bd {n : Int} (h : (Lit.int .u32 n).wf = true) : ∃ x : Nat, n = (x : Int) ∧ x < 4294967296 := by
  simp [Lit.wf, IntKind.min, IntKind.max, IntKind.signed, IntKind.bits] at h
  exact ⟨n.toNat, by omega, by omega⟩

theorem u16_bd {n : Int} (h : (Lit.int .u16 n).wf = true) : ∃ x : Nat, n = (x : Int) ∧ x < 65536 := by
  simp [Lit.wf, IntKind.min, IntKind.max, IntKind.signed, IntKind.bits] at h
  exact ⟨n.toNat, by omega, by omega⟩

theorem byts_row {w : World} {a : Option Addr} {len cap : Nat} {zs : List Int} (h : InRow .u8 w a len cap zs) : Byts w a len cap ((zs.take len).map Int.toNat) := by
  rcases h with ⟨rfl, rfl, rfl, rfl⟩ | ⟨x, rfl, hl, hm, hz, hc, hw⟩
  · exact byts_nil w
  · refine ⟨by simp; omega, ?_, hl, by unfold maxLen at hm; omega, (by intro h; cases h), fun hn => ?_⟩
    · intro y hy
      simp only [List.mem_map] at hy
      obtain ⟨z, hzm, rfl⟩ := hy
      have := u8_bd (hw z (List.mem_of_mem_take hzm))
      omega
    · have h0 := hc 0 (by omega)
      have hx : x.add 0 = x := rfl
      rw [hx] at h0
      obtain ⟨b, o, sp⟩ := x
      have hsp : sp = none := by
        cases sp with
        | none => rfl
        | some k =>
          unfold World.cell? at h0
          split at h0 <;> simp at h0
      subst hsp
      refine ⟨b, o, rfl, fun i hi => ?_⟩
      have h1 := hc i (by omega)
      rw [add_at] at h1
      rw [h1]
      have hlt : i < zs.length := by omega
      have hb := u8_bd (hw zs[i] (List.getElem_mem hlt))
      have : nth ((zs.take len).map Int.toNat) i = (zs.getD i 0).toNat := by
        simp [nth, hi, hlt]
      rw [this]
      congr 2
      rw [List.getD_eq_getElem?_getD, List.getElem?_eq_getElem hlt]
      simp
      omega

end Go.Proofs.YtlkchfhcfccaoaaGreatDoor
end

section
namespace Go.Proofs.YtlkchfhcfccaoaaGreatDoor
set_option linter.unusedVariables false

abbrev Iv := Nat × Nat

/-- Is the number in one of the intervals? -/
def mem (l : List Iv) (x : Nat) : Bool := l.any fun s => decide (s.1 ≤ x) && decide (x ≤ s.2)

theorem mem_iff {l : List Iv} {x : Nat} : mem l x = true ↔ ∃ s ∈ l, s.1 ≤ x ∧ x ≤ s.2 := by simp [mem]
theorem mem_nil (x : Nat) : mem [] x = false := rfl
theorem mem_cons (s : Iv) (l : List Iv) (x : Nat) : mem (s :: l) x = (decide (s.1 ≤ x) && decide (x ≤ s.2) || mem l x) := rfl
theorem mem_append (a b : List Iv) (x : Nat) : mem (a ++ b) x = (mem a x || mem b x) := by simp [mem]
theorem mem_false {l : List Iv} {x : Nat} : mem l x = false ↔ ∀ s ∈ l, ¬ (s.1 ≤ x ∧ x ≤ s.2) := by
  rw [← Bool.not_eq_true, mem_iff]
  simp

/-- Correct: each interval is, and numbers lie between any two neighbours. -/
def Good : List Iv → Prop
  | [] => True
  | [s] => s.1 ≤ s.2
  | s :: t :: l => s.1 ≤ s.2 ∧ s.2 + 1 < t.1 ∧ Good (t :: l)

theorem Good.tail {s : Iv} {l : List Iv} (h : Good (s :: l)) : Good l := by
  cases l with
  | nil => trivial
  | cons t l => exact h.2.2

theorem Good.head {s : Iv} {l : List Iv} (h : Good (s :: l)) : s.1 ≤ s.2 := by
  cases l with
  | nil => exact h
  | cons t l => exact h.1

theorem Good.lower : ∀ {s : Iv} {l : List Iv}, Good (s :: l) → ∀ t ∈ l, s.2 + 1 < t.1
  | s, [], _, t, ht => by simp at ht
  | s, u :: l, h, t, ht => by
    rcases List.mem_cons.1 ht with rfl | ht
    · exact h.2.1
    · have h1 := Good.lower h.2.2 t ht
      have h2 := h.2.2.head
      have h3 := h.2.1
      omega

theorem Good.ok : ∀ {l : List Iv}, Good l → ∀ t ∈ l, t.1 ≤ t.2
  | [], _, t, ht => by simp at ht
  | s :: l, h, t, ht => by
    rcases List.mem_cons.1 ht with rfl | ht
    · exact h.head
    · exact Good.ok h.tail t ht

theorem good_cons {s : Iv} {l : List Iv} (h1 : s.1 ≤ s.2) (h2 : ∀ t ∈ l, s.2 + 1 < t.1) (h : Good l) : Good (s :: l) := by
  cases l with
  | nil => exact h1
  | cons t l => exact ⟨h1, h2 t (List.mem_cons_self ..), h⟩

theorem Good.mem_lower {s : Iv} {l : List Iv} (h : Good (s :: l)) {x : Nat} (hx : mem l x = true) : s.2 + 1 < x := by
  obtain ⟨t, ht, h1, h2⟩ := mem_iff.1 hx
  have := h.lower t ht
  omega

theorem Good.mem_least {s : Iv} {l : List Iv} (h : Good (s :: l)) {x : Nat} (hx : mem (s :: l) x = true) : s.1 ≤ x := by
  obtain ⟨t, ht, h1, h2⟩ := mem_iff.1 hx
  rcases List.mem_cons.1 ht with rfl | ht
  · exact h1
  · have := h.lower t ht
    have := h.head
    omega

theorem mem_head {s : Iv} {l : List Iv} {x : Nat} (h1 : s.1 ≤ x) (h2 : x ≤ s.2) : mem (s :: l) x = true :=
  mem_iff.2 ⟨s, List.mem_cons_self .., h1, h2⟩

theorem mem_tail {s : Iv} {l : List Iv} {x : Nat} (h : mem l x = true) : mem (s :: l) x = true := by
  rw [mem_cons, h, Bool.or_true]

theorem mem_tail_of {s : Iv} {l : List Iv} {x : Nat} (h : mem (s :: l) x = true) (hs : s.2 < x) : mem l x = true := by
  rw [mem_cons] at h
  have : decide (x ≤ s.2) = false := by rw [decide_eq_false_iff_not]; omega
  rw [this, Bool.and_false, Bool.false_or] at h
  exact h

/-- A set has one correct list. -/
theorem good_ext : ∀ {l l' : List Iv}, Good l → Good l' → (∀ x, mem l x = mem l' x) → l = l'
  | [], [], _, _, _ => rfl
  | [], t :: l', _, h', e => by
    have := (e t.1).symm.trans rfl
    rw [mem_nil, mem_head (Nat.le_refl _) h'.head] at this
    cases this
  | s :: l, [], h, _, e => by
    have := e s.1
    rw [mem_nil, mem_head (Nat.le_refl _) h.head] at this
    cases this
  | s :: l, t :: l', h, h', e => by
    have e1 : s.1 = t.1 := by
      have a := h'.mem_least (x := s.1) (by rw [← e]; exact mem_head (Nat.le_refl _) h.head)
      have b := h.mem_least (x := t.1) (by rw [e]; exact mem_head (Nat.le_refl _) h'.head)
      omega
    have k1 := h.head
    have k2 := h'.head
    have le1 : s.2 ≤ t.2 := by
      refine Nat.le_of_not_lt fun hlt => ?_
      have m : mem (t :: l') (t.2 + 1) = true := by rw [← e]; exact mem_head (by omega) (by omega)
      have := h'.mem_lower (mem_tail_of m (by omega))
      omega
    have le2 : t.2 ≤ s.2 := by
      refine Nat.le_of_not_lt fun hlt => ?_
      have m : mem (s :: l) (s.2 + 1) = true := by rw [e]; exact mem_head (by omega) (by omega)
      have := h.mem_lower (mem_tail_of m (by omega))
      omega
    have e2 : s.2 = t.2 := by omega
    have es : s = t := Prod.ext e1 e2
    subst es
    congr 1
    refine good_ext h.tail h'.tail fun x => ?_
    rw [Bool.eq_iff_iff]
    constructor
    · intro hm
      have := h.mem_lower hm
      exact mem_tail_of (by rw [← e]; exact mem_tail hm) (by omega)
    · intro hm
      have := h'.mem_lower hm
      exact mem_tail_of (by rw [e]; exact mem_tail hm) (by omega)

/-! At the end of a list. -/
theorem good_snoc : ∀ {l : List Iv} {s : Iv}, Good l → s.1 ≤ s.2 → (∀ t ∈ l, t.2 + 1 < s.1) → Good (l ++ [s])
  | [], s, _, hs, _ => hs
  | t :: l, s, h, hs, hl => by
    refine good_cons h.head ?_ (good_snoc h.tail hs fun u hu => hl u (List.mem_cons_of_mem _ hu))
    intro u hu
    rcases List.mem_append.1 hu with hu | hu
    · exact h.lower u hu
    · simp at hu; subst hu; exact hl t (List.mem_cons_self ..)

theorem good_init : ∀ {l : List Iv} {s : Iv}, Good (l ++ [s]) → Good l ∧ s.1 ≤ s.2 ∧ ∀ t ∈ l, t.2 + 1 < s.1
  | [], s, h => ⟨trivial, h, by simp⟩
  | t :: l, s, h => by
    obtain ⟨h1, h2, h3⟩ := good_init (l := l) h.tail
    refine ⟨good_cons h.head (fun u hu => h.lower u (by simp [hu])) h1, h2, ?_⟩
    intro u hu
    rcases List.mem_cons.1 hu with rfl | hu
    · exact h.lower s (by simp)
    · exact h3 u hu

/-- The last interval reaches further. -/
theorem good_widen {l : List Iv} {s : Iv} {x : Nat} (h : Good (l ++ [s])) (hx : s.2 ≤ x) : Good (l ++ [(s.1, x)]) := by
  obtain ⟨h1, h2, h3⟩ := good_init h
  exact good_snoc h1 (Nat.le_trans h2 hx) h3

/-- Put an interval that begins behind all others at the end, and join it to the last one if they touch. -/
def putL (l : List Iv) (s : Iv) : List Iv :=
  match l.getLast? with
  | none => [s]
  | some t => if t.2 + 1 = s.1 then l.dropLast ++ [(t.1, s.2)] else l ++ [s]

theorem putL_nil (s : Iv) : putL [] s = [s] := rfl
theorem putL_snoc (l : List Iv) (t s : Iv) : putL (l ++ [t]) s = if t.2 + 1 = s.1 then l ++ [(t.1, s.2)] else l ++ [t] ++ [s] := by
  unfold putL
  simp

theorem nil_or_snoc {α : Type} (l : List α) : l = [] ∨ ∃ a t, l = a ++ [t] := by
  rcases List.eq_nil_or_concat l with h | ⟨a, t, h⟩
  · exact .inl h
  · exact .inr ⟨a, t, by simpa using h⟩

theorem putL_good {l : List Iv} {s : Iv} (h : Good l) (hs : s.1 ≤ s.2) (hl : ∀ t ∈ l, t.2 < s.1) : Good (putL l s) ∧ (∀ x, mem (putL l s) x = (mem l x || (decide (s.1 ≤ x) && decide (x ≤ s.2)))) ∧ ∀ t ∈ putL l s, t.2 ≤ s.2 := by
  rcases nil_or_snoc l with rfl | ⟨a, t, rfl⟩
  · refine ⟨hs, fun x => ?_, ?_⟩
    · rw [putL_nil, mem_cons]; simp [mem_nil]
    · intro t ht; simp [putL_nil] at ht; subst ht; exact Nat.le_refl _
  · obtain ⟨h1, h2, h3⟩ := good_init h
    have ht := hl t (by simp)
    rw [putL_snoc]
    by_cases e : t.2 + 1 = s.1
    · rw [if_pos e]
      refine ⟨good_widen h (by omega), fun x => ?_, ?_⟩
      · simp only [mem_append, mem_cons, mem_nil, Bool.or_false]
        rw [Bool.or_assoc]
        congr 1
        rw [Bool.eq_iff_iff]
        simp
        omega
      · intro u hu
        rcases List.mem_append.1 hu with hu | hu
        · have := hl u (by simp [hu]); omega
        · simp at hu; subst hu; exact Nat.le_refl _
    · rw [if_neg e]
      refine ⟨good_snoc h hs ?_, fun x => ?_, ?_⟩
      · intro u hu
        rcases List.mem_append.1 hu with hu | hu
        · have := h3 u hu; omega
        · simp at hu; subst hu; omega
      · simp only [mem_append, mem_cons, mem_nil, Bool.or_false]
      · intro u hu
        rcases List.mem_append.1 hu with hu | hu
        · have := hl u hu; omega
        · simp at hu; subst hu; exact Nat.le_refl _

/-- Pieces, some of them taken. -/
def takeL : List (Iv × Bool) → List Iv → List Iv
  | [], out => out
  | (s, b) :: ps, out => takeL ps (if b then putL out s else out)

/-- Pieces that follow each other from a number on, up to the greatest one. -/
def Cover (top : Nat) : Nat → List (Iv × Bool) → Prop
  | _, [] => False
  | a, [(s, _)] => s.1 = a ∧ s.1 ≤ s.2 ∧ s.2 = top
  | a, (s, _) :: p :: ps => s.1 = a ∧ s.1 ≤ s.2 ∧ s.2 < top ∧ Cover top (s.2 + 1) (p :: ps)

theorem takeL_good {top : Nat} : ∀ {ps : List (Iv × Bool)} {a : Nat} {out : List Iv}, Cover top a ps → Good out → (∀ t ∈ out, t.2 < a) →
    Good (takeL ps out) ∧ ∀ x, mem (takeL ps out) x = (mem out x || ps.any fun p => p.2 && (decide (p.1.1 ≤ x) && decide (x ≤ p.1.2)))
  | [], a, out, hc, _, _ => hc.elim
  | [(s, b)], a, out, hc, h, hl => by
    obtain ⟨h1, h2, h3⟩ := hc
    cases b with
    | false => exact ⟨h, fun x => by simp [takeL]⟩
    | true =>
      obtain ⟨g1, g2, -⟩ := putL_good h h2 (by rw [h1]; exact hl)
      exact ⟨g1, fun x => by simp [takeL, g2]⟩
  | (s, b) :: p :: ps, a, out, hc, h, hl => by
    obtain ⟨h1, h2, h3, h4⟩ := hc
    cases b with
    | false =>
      obtain ⟨g1, g2⟩ := takeL_good (out := out) h4 h (fun t ht => by have := hl t ht; omega)
      refine ⟨g1, fun x => ?_⟩
      have := g2 x
      rw [takeL]
      simp only [Bool.false_eq_true, if_false]
      rw [this]
      simp
    | true =>
      obtain ⟨k1, k2, k3⟩ := putL_good h h2 (by rw [h1]; exact hl)
      obtain ⟨g1, g2⟩ := takeL_good (out := putL out s) h4 k1 (fun t ht => by have := k3 t ht; omega)
      refine ⟨g1, fun x => ?_⟩
      have := g2 x
      rw [takeL]
      simp only [if_true]
      rw [this, k2]
      simp [Bool.or_assoc]

end Go.Proofs.YtlkchfhcfccaoaaGreatDoor
end
