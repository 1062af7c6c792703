/-
  Plain law: decimal texts, their parts, lists of intervals as texts. No program in sight.
-/
import Derived.Test.YtbiohohclnaocaaGreatDoorKList
import Derived.Lib.ItoaNum
import Derived.Lib.ParseIntB
import Derived.Lib.SlTrimSet
import Derived.Lib.Split
import Derived.Lib.Join
namespace Go.Proofs.YtbiohohclnaocaaGreatDoor
open Go
set_option linter.unusedVariables false

abbrev Txt := List UInt8

/-! Decimal numbers. -/
/-- The digits of a number, the lowest first; none for 0. -/
def decAsc (n : Nat) : List Nat :=
  if h : n = 0 then [] else n % 10 :: decAsc (n / 10)
termination_by n
decreasing_by omega

theorem decAsc_zero : decAsc 0 = [] := by rw [decAsc, dif_pos rfl]
theorem decAsc_pos {n : Nat} (h : n ≠ 0) : decAsc n = n % 10 :: decAsc (n / 10) := by rw [decAsc, dif_neg h]

theorem decAsc_lt : ∀ (n : Nat), ∀ d ∈ decAsc n, d < 10 := by
  intro n
  induction n using Nat.strongRecOn with
  | _ n ih =>
    intro d hd
    by_cases h : n = 0
    · subst h; rw [decAsc_zero] at hd; cases hd
    · rw [decAsc_pos h] at hd
      rcases List.mem_cons.1 hd with rfl | hd
      · omega
      · exact ih (n / 10) (by omega) d hd

theorem decAsc_len : ∀ (k n : Nat), n < 10 ^ k → (decAsc n).length ≤ k
  | 0, n, h => by
    have : n = 0 := by simpa using h
    subst this; simp [decAsc_zero]
  | k + 1, n, h => by
    by_cases h0 : n = 0
    · subst h0; simp [decAsc_zero]
    · rw [decAsc_pos h0, List.length_cons]
      have := decAsc_len k (n / 10) (by rw [Nat.pow_succ] at h; omega)
      omega

/-- Twice a number of digits, plus a bit. -/
def dblL : List Nat → Nat → List Nat
  | [], b => if 0 < b then [b] else []
  | d :: l, b => (2 * d + b) % 10 :: dblL l ((2 * d + b) / 10)

theorem dbl_dec : ∀ (n b : Nat), b ≤ 1 → dblL (decAsc n) b = decAsc (2 * n + b) := by
  intro n
  induction n using Nat.strongRecOn with
  | _ n ih =>
    intro b hb
    by_cases h : n = 0
    · subst h
      rw [decAsc_zero]
      rcases (by omega : b = 0 ∨ b = 1) with rfl | rfl
      · simp [dblL, decAsc_zero]
      · rw [decAsc_pos (by omega)]; simp [dblL, decAsc_zero]
    · rw [decAsc_pos h, decAsc_pos (by omega : 2 * n + b ≠ 0), dblL]
      rw [ih (n / 10) (by omega) _ (by omega)]
      congr 1
      · omega
      · congr 1; omega

/-- A digit's byte. -/
def dgB (d : Nat) : UInt8 := UInt8.ofNat (48 + d)

/-- The decimal text of a number. -/
abbrev dec (n : Nat) : Txt := Lib.decDigits n

theorem dec_small {n : Nat} (h : n < 10) : dec n = [dgB n] := by show Lib.decDigits n = _; rw [Lib.decDigits, dif_pos h]; rfl
theorem dec_big {n : Nat} (h : ¬ n < 10) : dec n = dec (n / 10) ++ [dgB (n % 10)] := by show Lib.decDigits n = _; rw [Lib.decDigits, dif_neg h]; rfl

theorem dec_asc : ∀ (n : Nat), dec n = if n = 0 then [48] else ((decAsc n).map dgB).reverse := by
  intro n
  induction n using Nat.strongRecOn with
  | _ n ih =>
    by_cases h : n = 0
    · subst h; rw [if_pos rfl, dec_small (by omega)]; rfl
    · rw [if_neg h, decAsc_pos h]
      by_cases h10 : n < 10
      · rw [dec_small h10, show n / 10 = 0 by omega, decAsc_zero, show n % 10 = n by omega]; rfl
      · rw [dec_big h10, ih (n / 10) (by omega), if_neg (by omega)]; simp

theorem dgB_nat {d : Nat} (h : d < 10) : (dgB d).toNat = 48 + d := by
  unfold dgB
  rw [UInt8.toNat_ofNat']
  omega

/-- Is the byte a digit? -/
def isD (b : UInt8) : Bool := decide (48 ≤ b.toNat) && decide (b.toNat ≤ 57)

theorem isD_dgB {d : Nat} (h : d < 10) : isD (dgB d) = true := by
  unfold isD
  rw [dgB_nat h]
  simp
  omega

theorem dec_isD (n : Nat) : ∀ b ∈ dec n, isD b = true := by
  intro b hb
  rw [dec_asc] at hb
  split at hb
  · simp at hb; subst hb; decide
  · simp at hb
    obtain ⟨d, hd, rfl⟩ := hb
    exact isD_dgB (decAsc_lt n d hd)

theorem dec_ne_nil (n : Nat) : dec n ≠ [] := by
  by_cases h : n < 10
  · rw [dec_small h]; simp
  · rw [dec_big h]; simp

theorem dec_head : ∀ (n : Nat), n ≠ 0 → (dec n).head? ≠ some 48 := by
  intro n
  induction n using Nat.strongRecOn with
  | _ n ih =>
    intro h0
    by_cases h : n < 10
    · rw [dec_small h]
      simp only [List.head?_cons, ne_eq, Option.some.injEq]
      intro e
      have := dgB_nat h
      rw [e] at this
      simp at this
      omega
    · rw [dec_big h]
      have := ih (n / 10) (by omega) (by omega)
      cases e : dec (n / 10) with
      | nil => exact absurd e (dec_ne_nil _)
      | cons b r => rw [e] at this; simpa using this

/-- A number without leading zeros. -/
def digT (l : Txt) : Bool := !l.isEmpty && l.all isD && (decide (l = [48]) || decide (l.head? ≠ some 48))

theorem digT_dec (n : Nat) : digT (dec n) = true := by
  unfold digT
  rw [Bool.and_eq_true, Bool.and_eq_true]
  refine ⟨⟨?_, List.all_eq_true.2 (dec_isD n)⟩, ?_⟩
  · cases e : dec n with
    | nil => exact absurd e (dec_ne_nil _)
    | cons b r => rfl
  · by_cases h : n = 0
    · subst h; rw [dec_small (by omega)]; rfl
    · rw [Bool.or_eq_true]; exact .inr (decide_eq_true (dec_head n h))

/-- The value of digits, if it has 64 bits. -/
def numT (acc : Nat) : Txt → Option Nat
  | [] => some acc
  | c :: r => if 18446744073709551615 < 10 * acc + (c.toNat - 48) then none else numT (10 * acc + (c.toNat - 48)) r

theorem numT_append (a b : Txt) (acc : Nat) : numT acc (a ++ b) = (numT acc a).bind fun v => numT v b := by
  induction a generalizing acc with
  | nil => rfl
  | cons c r ih =>
    rw [List.cons_append, numT, numT]
    split
    · rfl
    · exact ih _

theorem numT_dec : ∀ (n : Nat), n < 18446744073709551616 → numT 0 (dec n) = some n := by
  intro n
  induction n using Nat.strongRecOn with
  | _ n ih =>
    intro hn
    by_cases h : n < 10
    · rw [dec_small h, numT, numT, dgB_nat h, if_neg (by omega)]
      congr 1; omega
    · rw [dec_big h, numT_append, ih (n / 10) (by omega) (by omega)]
      simp only [Option.bind_some]
      rw [numT, numT, dgB_nat (by omega), if_neg (by omega)]
      congr 1; omega

theorem numT_lt : ∀ (l : Txt) (acc v : Nat), acc < 18446744073709551616 → numT acc l = some v → v < 18446744073709551616
  | [], acc, v, h, e => by cases e; exact h
  | c :: r, acc, v, h, e => by
    rw [numT] at e
    split at e
    · cases e
    · exact numT_lt r _ v (by omega) e

theorem parse_num : ∀ (l : Txt) (acc : Nat), acc < 18446744073709551616 → l.all isD = true → Lib.parseUintM (2 ^ 64 - 1) acc l = match numT acc l with | some v => .ok v | none => .range
  | [], acc, _, _ => rfl
  | c :: r, acc, h, hl => by
    rw [List.all_cons, Bool.and_eq_true] at hl
    have hc := hl.1
    unfold isD at hc
    simp only [Bool.and_eq_true, decide_eq_true_eq] at hc
    rw [Lib.parseUintM, if_pos hc, numT]
    have e : acc * 10 + (c.toNat - 48) = 10 * acc + (c.toNat - 48) := by omega
    by_cases h1 : 18446744073709551615 < 10 * acc + (c.toNat - 48)
    · rw [if_pos h1]
      by_cases h2 : 1844674407370955162 ≤ acc
      · rw [if_pos h2]
      · rw [if_neg h2, if_pos (by omega)]
    · rw [if_neg h1, if_neg (by omega), if_neg (by omega), e]
      exact parse_num r _ (by omega) hl.2

theorem parseB_num {l : Txt} (h : digT l = true) : Lib.parseUintB 64 l = match numT 0 l with | some v => .ok v | none => .range := by
  unfold digT at h
  simp only [Bool.and_eq_true] at h
  unfold Lib.parseUintB
  rw [if_neg (by intro e; subst e; simp at h)]
  exact parse_num l 0 (by omega) h.1.2

/-! The parts of a text between bytes. -/
def pcs (c : UInt8) : Txt → List Txt
  | [] => [[]]
  | x :: r => if x = c then [] :: pcs c r else match pcs c r with | [] => [[x]] | p :: ps => (x :: p) :: ps

theorem pcs_ne (c : UInt8) : ∀ (l : Txt), pcs c l ≠ []
  | [] => by simp [pcs]
  | x :: r => by
    rw [pcs]
    split
    · simp
    · split <;> simp

theorem pcs_none {c : UInt8} : ∀ {l : Txt}, (∀ b ∈ l, b ≠ c) → pcs c l = [l]
  | [], _ => rfl
  | x :: r, h => by
    rw [pcs, if_neg (h x (List.mem_cons_self ..)), pcs_none (l := r) fun b hb => h b (List.mem_cons_of_mem _ hb)]

theorem pcs_cut {c : UInt8} : ∀ {a : Txt} (b : Txt), (∀ x ∈ a, x ≠ c) → pcs c (a ++ c :: b) = a :: pcs c b
  | [], b, _ => by rw [List.nil_append, pcs, if_pos rfl]
  | x :: r, b, h => by
    rw [List.cons_append, pcs, if_neg (h x (List.mem_cons_self ..)), pcs_cut (a := r) b fun b hb => h b (List.mem_cons_of_mem _ hb)]

theorem split_at (c : UInt8) (l : Txt) : (∀ b ∈ l, b ≠ c) ∨ ∃ a b, l = a ++ c :: b ∧ ∀ x ∈ a, x ≠ c := by
  induction l with
  | nil => exact .inl (by simp)
  | cons x r ih =>
    by_cases h : x = c
    · subst h; exact .inr ⟨[], r, rfl, by simp⟩
    · rcases ih with ih | ⟨a, b, rfl, hb⟩
      · left
        intro y hy
        rcases List.mem_cons.1 hy with rfl | hy
        · exact h
        · exact ih y hy
      · right
        refine ⟨x :: a, b, rfl, ?_⟩
        intro y hy
        rcases List.mem_cons.1 hy with rfl | hy
        · exact h
        · exact hb y hy

theorem index_none {c : UInt8} : ∀ {l : Txt}, (∀ b ∈ l, b ≠ c) → Lib.index l [c] = -1
  | [], _ => by simp [Lib.index]
  | x :: r, h => by
    have hx := h x (List.mem_cons_self ..)
    have := index_none (l := r) fun b hb => h b (List.mem_cons_of_mem _ hb)
    unfold Lib.index
    rw [this]
    rw [if_neg (by simp [List.isPrefixOf]; intro e; exact hx e.symm)]
    rfl

theorem index_some {c : UInt8} : ∀ {a : Txt} (b : Txt), (∀ x ∈ a, x ≠ c) → Lib.index (a ++ c :: b) [c] = a.length
  | [], b, _ => by unfold Lib.index; simp [List.isPrefixOf]
  | x :: r, b, h => by
    have hx := h x (List.mem_cons_self ..)
    have := index_some (a := r) b fun b hb => h b (List.mem_cons_of_mem _ hb)
    rw [List.cons_append]
    unfold Lib.index
    rw [this]
    rw [if_neg (by simp [List.isPrefixOf]; intro e; exact hx e.symm), if_neg (by rw [beq_iff_eq]; omega), List.length_cons]
    omega

theorem cut_none {c : UInt8} {l : Txt} (h : ∀ b ∈ l, b ≠ c) : Lib.cut l [c] = (l, [], false) := by
  unfold Lib.cut
  rw [index_none h, if_neg (by decide)]

theorem cut_some {c : UInt8} {a : Txt} (b : Txt) (h : ∀ x ∈ a, x ≠ c) : Lib.cut (a ++ c :: b) [c] = (a, b, true) := by
  unfold Lib.cut
  rw [index_some b h, if_pos (by omega)]
  simp

theorem contains_none {c : UInt8} {l : Txt} (h : ∀ b ∈ l, b ≠ c) : Lib.contains l [c] = false := by
  unfold Lib.contains
  rw [index_none h]; rfl

theorem contains_some {c : UInt8} {a : Txt} (b : Txt) (h : ∀ x ∈ a, x ≠ c) : Lib.contains (a ++ c :: b) [c] = true := by
  unfold Lib.contains
  rw [index_some b h]; simp

theorem count_pcs (c : UInt8) : ∀ (n : Nat) (l : Txt), l.length < n → Lib.countFrom [c] n l + 1 = (pcs c l).length
  | 0, l, h => by omega
  | n + 1, l, h => by
    rw [Lib.countFrom]
    rcases split_at c l with h' | ⟨a, b, rfl, ha⟩
    · rw [index_none h', if_pos (by decide), pcs_none h']; rfl
    · rw [index_some b ha, if_neg (by rw [beq_iff_eq]; omega), pcs_cut b ha]
      have hd : (a ++ c :: b).drop (((a.length : Nat) : Int).toNat + [c].length) = b := by simp
      rw [hd, List.length_cons, ← count_pcs c n b (by simp at h; omega)]
      omega

theorem split_pcs (c : UInt8) : ∀ (n : Nat) (l : Txt), l.length < n → Lib.splitK [c] 0 ((pcs c l).length - 1) l = pcs c l
  | 0, l, h => by omega
  | n + 1, l, h => by
    rcases split_at c l with h' | ⟨a, b, rfl, ha⟩
    · rw [pcs_none h']; rfl
    · rw [pcs_cut b ha, List.length_cons]
      have hp : 0 < (pcs c b).length := List.length_pos_iff.2 (pcs_ne c b)
      rw [show (pcs c b).length + 1 - 1 = ((pcs c b).length - 1) + 1 by omega, Lib.splitK, index_some b ha, if_neg (by rw [beq_iff_eq]; omega)]
      have hd : (a ++ c :: b).drop (((a.length : Nat) : Int).toNat + [c].length) = b := by simp
      have ht : (a ++ c :: b).take (((a.length : Nat) : Int).toNat + 0) = a := by simp
      rw [hd, ht, split_pcs c n b (by simp at h; omega)]

theorem dropWhile_ne {α : Type} {p : α → Bool} : ∀ {l : List α}, (∃ x ∈ l, p x = false) → ∃ x r, l.dropWhile p = x :: r ∧ p x = false
  | [], h => by obtain ⟨x, hx, _⟩ := h; cases hx
  | y :: r, h => by
    by_cases hy : p y = true
    · rw [List.dropWhile_cons_of_pos hy]
      refine dropWhile_ne ?_
      obtain ⟨x, hx, h⟩ := h
      rcases List.mem_cons.1 hx with rfl | hx
      · rw [hy] at h; cases h
      · exact ⟨x, hx, h⟩
    · rw [List.dropWhile_cons_of_neg hy]
      exact ⟨y, r, rfl, by simpa using hy⟩

theorem trim_nil (l cs : Txt) : Lib.trimS l cs = [] ↔ ∀ b ∈ l, cs.contains b = true := by
  unfold Lib.trimS Lib.trimLeftS Lib.trimRightS
  constructor
  · intro h b hb
    refine Bool.not_eq_false _ ▸ fun hf => ?_
    obtain ⟨x, r, e, hx⟩ := dropWhile_ne (p := (cs.contains ·)) (l := l.reverse) ⟨b, by simpa using hb, hf⟩
    rw [e] at h
    obtain ⟨y, q, e', _⟩ := dropWhile_ne (p := (cs.contains ·)) (l := (x :: r).reverse) ⟨x, by simp, hx⟩
    rw [e'] at h
    cases h
  · intro h
    have : l.reverse.dropWhile (cs.contains ·) = [] := by
      cases e : l.reverse.dropWhile (cs.contains ·) with
      | nil => rfl
      | cons x r =>
        have hx : x ∈ l.reverse := (List.dropWhile_sublist (cs.contains ·)).mem (e ▸ List.mem_cons_self ..)
        have := List.head?_dropWhile_not (cs.contains ·) l.reverse
        rw [e] at this
        simp at this
        exact absurd (by simpa using h x (by simpa using hx)) this
    rw [this]
    rfl

/-- The text of the digits. -/
def digs : Txt := [48, 49, 50, 51, 52, 53, 54, 55, 56, 57]
set_option maxRecDepth 20000 in
theorem digs_isD (b : UInt8) : digs.contains b = isD b := by
  have h : ∀ n : Fin 256, digs.contains (UInt8.ofNat n.1) = isD (UInt8.ofNat n.1) := by decide
  have := h ⟨b.toNat, b.toNat_lt⟩
  simpa using this

theorem trim_digs (l : Txt) : Lib.trimS l digs = [] ↔ l.all isD = true := by
  rw [trim_nil, List.all_eq_true]
  simp only [digs_isD]

end Go.Proofs.YtbiohohclnaocaaGreatDoor
