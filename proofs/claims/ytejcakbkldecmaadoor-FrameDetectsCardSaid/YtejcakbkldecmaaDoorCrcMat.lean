/-
  Plain law: linear maps of 32-bit registers as lists of 32 rows; the checksum of two parts; the register is changed by a burst of up to 32 bits. No program in sight.
-/
import Derived.Test.YtejcakbkldecmaaDoorCrcPlain
namespace Go.Proofs.YtejcakbkldecmaaDoor

/-- The value of a register under the first k rows. -/
def applyTo (M : List Nat) (x : Nat) : Nat → Nat
  | 0 => 0
  | k + 1 => applyTo M x k ^^^ (x / 2 ^ k % 2 * nth M k)

def applyM (M : List Nat) (x : Nat) : Nat := applyTo M x 32
def squareM (M : List Nat) : List Nat := M.map (applyM M)
/-- The rows of one step. -/
def bitM : List Nat := 3988292384 :: (List.range 31).map fun i => 2 ^ i

/-- A matrix of 32 words. -/
structure Mat (M : List Nat) : Prop where
  len : M.length = 32
  lt : ∀ x ∈ M, x < 4294967296

/-- The matrix is a given linear map. -/
structure Rep (M : List Nat) (f : Nat → Nat) : Prop where
  len : M.length = 32
  row : ∀ i, i < 32 → nth M i = f (2 ^ i)
  add : ∀ a b, f (a ^^^ b) = f a ^^^ f b
  zero : f 0 = 0
  lt : ∀ x, x < 4294967296 → f x < 4294967296

theorem applyTo_lt {M : List Nat} (h : ∀ x ∈ M, x < 4294967296) (x k : Nat) : applyTo M x k < 4294967296 := by
  induction k with
  | zero => show 0 < 4294967296; omega
  | succ k ih =>
    have hn := nth_lt h (by omega) k
    refine xor_lt32 ih ?_
    rcases Nat.mod_two_eq_zero_or_one (x / 2 ^ k) with e | e <;> rw [e] <;> omega

theorem mod_succ (x k : Nat) : x % 2 ^ (k + 1) = x % 2 ^ k ^^^ (x / 2 ^ k % 2 * 2 ^ k) := by
  apply Nat.eq_of_testBit_eq
  intro i
  rw [Nat.testBit_xor, Nat.testBit_mod_two_pow, Nat.testBit_mod_two_pow]
  have hb : (x / 2 ^ k % 2 * 2 ^ k).testBit i = (decide (i = k) && x.testBit k) := by
    have hk : x.testBit k = decide (x / 2 ^ k % 2 = 1) := by rw [Nat.testBit_eq_decide_div_mod_eq]
    rcases Nat.mod_two_eq_zero_or_one (x / 2 ^ k) with e | e
    · rw [hk, e]; simp
    · rw [hk, e, Nat.one_mul, Nat.testBit_two_pow]
      simp [eq_comm]
  rw [hb]
  by_cases h1 : i < k
  · have h2 : i < k + 1 := by omega
    have h3 : ¬ i = k := by omega
    simp [h1, h2, h3]
  · by_cases h2 : i = k
    · subst h2; simp
    · have h3 : ¬ i < k + 1 := by omega
      simp [h1, h2, h3]

theorem Rep.applyTo {M : List Nat} {f : Nat → Nat} (h : Rep M f) (x k : Nat) (hk : k ≤ 32) : applyTo M x k = f (x % 2 ^ k) := by
  induction k with
  | zero => simp [Go.Proofs.YtejcakbkldecmaaDoor.applyTo, Nat.mod_one, h.zero]
  | succ k ih =>
    rw [Go.Proofs.YtejcakbkldecmaaDoor.applyTo, ih (by omega), mod_succ, h.add, h.row k (by omega)]
    congr 1
    rcases Nat.mod_two_eq_zero_or_one (x / 2 ^ k) with e | e <;> rw [e]
    · simp [h.zero]
    · simp

theorem Rep.apply {M : List Nat} {f : Nat → Nat} (h : Rep M f) (x : Nat) (hx : x < 4294967296) : applyM M x = f x := by
  rw [applyM, h.applyTo x 32 (Nat.le_refl _), Nat.mod_eq_of_lt (by simpa using hx)]

theorem nth_map (f : Nat → Nat) (l : List Nat) (i : Nat) (h : i < l.length) : nth (l.map f) i = f (nth l i) := by simp [nth, h]

theorem two_pow_lt (i : Nat) (h : i < 32) : 2 ^ i < 4294967296 := by
  have : 2 ^ i < 2 ^ 32 := Nat.pow_lt_pow_right (by omega) h
  simpa using this

theorem Rep.square {M : List Nat} {f : Nat → Nat} (h : Rep M f) : Rep (squareM M) (fun x => f (f x)) := by
  refine ⟨by simp [squareM, h.len], fun i hi => ?_, fun a b => by rw [h.add, h.add], by rw [h.zero, h.zero], fun x hx => h.lt _ (h.lt _ hx)⟩
  rw [squareM, nth_map _ _ _ (by rw [h.len]; exact hi), h.row i hi, h.apply _ (h.lt _ (two_pow_lt i hi))]

theorem Rep.mat {M : List Nat} {f : Nat → Nat} (h : Rep M f) : Mat M := by
  refine ⟨h.len, fun x hx => ?_⟩
  obtain ⟨i, hi, rfl⟩ := List.mem_iff_getElem.1 hx
  have hi' : i < 32 := by rw [h.len] at hi; exact hi
  have := h.row i hi'
  rw [show M[i] = nth M i from by simp [nth, hi], this]
  exact h.lt _ (two_pow_lt i hi')

theorem Mat.square {M : List Nat} (h : Mat M) : Mat (squareM M) := by
  refine ⟨by simp [squareM, h.len], fun x hx => ?_⟩
  simp only [squareM, List.mem_map] at hx
  obtain ⟨y, _, rfl⟩ := hx
  exact applyTo_lt h.lt y 32

theorem rep_bit : Rep bitM step1 := by
  refine ⟨by simp [bitM], fun i hi => ?_, step1_xor, step1_zero, fun x hx => step1_lt hx⟩
  cases i with
  | zero => simp [nth, bitM, step1]
  | succ i =>
    have hi' : i < 31 := by omega
    have h1 : nth bitM (i + 1) = 2 ^ i := by simp [nth, bitM, hi']
    have h2 : 2 ^ (i + 1) / 2 = 2 ^ i := by rw [Nat.pow_succ]; omega
    have h3 : 2 ^ (i + 1) % 2 = 0 := by rw [Nat.pow_succ]; omega
    rw [h1, step1, h2, h3]
    simp

theorem rep_steps_square {M : List Nat} {k : Nat} (h : Rep M (steps k)) : Rep (squareM M) (steps (k + k)) := by
  have := h.square
  have e : (fun x => steps k (steps k x)) = steps (k + k) := by funext x; rw [steps_add]
  rw [e] at this
  exact this

/-- The loop of Join over the bits of n: a, the matrix of k steps. -/
theorem join_round (k n a : Nat) : steps (k * n) a = steps ((k + k) * (n / 2)) (if n % 2 = 1 then steps k a else a) := by
  have hn : n = 2 * (n / 2) + n % 2 := by omega
  rcases Nat.mod_two_eq_zero_or_one n with e | e
  · rw [if_neg (by omega)]
    congr 1
    rw [show k * n = k * (2 * (n / 2)) from by congr 1; omega, ← Nat.mul_assoc, Nat.mul_two]
  · rw [if_pos e, ← steps_add]
    congr 1
    rw [show k * n = k * (2 * (n / 2) + 1) from by congr 1; omega, Nat.mul_add, ← Nat.mul_assoc, Nat.mul_two, Nat.mul_one]

/-! Two parts. -/
theorem reg_zero_len (l : List Nat) (x : Nat) : reg x l = steps (8 * l.length) x ^^^ reg 0 l := by
  induction l generalizing x with
  | nil => simp [reg, steps]
  | cons c l ih =>
    have h1 : reg x (c :: l) = reg (byteStep x c) l := rfl
    have h2 : reg 0 (c :: l) = reg (byteStep 0 c) l := rfl
    rw [h1, h2, ih (byteStep x c), ih (byteStep 0 c), byteStep, byteStep, steps_xor, Nat.zero_xor, steps_xor, List.length_cons, Nat.mul_add, steps_add, Nat.mul_one, ← Nat.xor_assoc]

theorem xor_cancel_mid (a b c d : Nat) : a ^^^ (b ^^^ c) ^^^ (b ^^^ (a ^^^ d)) = c ^^^ d := by
  rw [Nat.xor_comm a (b ^^^ c), Nat.xor_assoc, Nat.xor_comm a (b ^^^ (a ^^^ d)), Nat.xor_assoc b (a ^^^ d) a, Nat.xor_comm (a ^^^ d) a, ← Nat.xor_assoc a a d, Nat.xor_self, Nat.zero_xor,
    Nat.xor_assoc, ← Nat.xor_assoc c b d, Nat.xor_comm c b, Nat.xor_assoc b c d, ← Nat.xor_assoc b b, Nat.xor_self, Nat.zero_xor]

theorem join_law (a b : List Nat) : steps (8 * b.length) (sum a) ^^^ sum b = sum (a ++ b) := by
  unfold sum
  rw [reg_append, reg_zero_len b (reg 4294967295 a), reg_zero_len b 4294967295, steps_xor]
  generalize steps (8 * b.length) (reg 4294967295 a) = p
  generalize steps (8 * b.length) 4294967295 = q
  generalize reg 0 b = r
  generalize 4294967295 = o
  rw [Nat.xor_assoc q p, ← Nat.xor_assoc o q r, Nat.xor_comm o q, Nat.xor_assoc q o r, ← Nat.xor_assoc p q, Nat.xor_comm p q, Nat.xor_assoc q p, ← Nat.xor_assoc q q, Nat.xor_self, Nat.zero_xor,
    ← Nat.xor_assoc p o r, Nat.xor_comm p o, Nat.xor_assoc]

/-! A burst. -/
theorem xor_zero {a b : Nat} (h : a ^^^ b = 0) : a = b := by
  have e : (a ^^^ b) ^^^ b = a := by rw [Nat.xor_assoc, Nat.xor_self, Nat.xor_zero]
  rw [← e, h, Nat.zero_xor]

theorem step1_ne {x : Nat} (h : x < 4294967296) (h0 : x ≠ 0) : step1 x ≠ 0 := by
  unfold step1
  rcases Nat.mod_two_eq_zero_or_one x with e | e
  · rw [e, Nat.zero_mul, Nat.xor_zero]; omega
  · intro hz
    have := xor_zero hz
    rw [e] at this
    omega

theorem steps_ne (k : Nat) {x : Nat} (h : x < 4294967296) (h0 : x ≠ 0) : steps k x ≠ 0 := by
  induction k with
  | zero => exact h0
  | succ k ih => exact step1_ne (steps_lt k h) ih

theorem steps_even (k y : Nat) : steps k (y * 2 ^ k) = y := by
  induction k generalizing y with
  | zero => simp [steps]
  | succ k ih =>
    rw [Nat.add_comm k 1, steps_add, Nat.add_comm 1 k, Nat.pow_succ, Nat.mul_comm (2 ^ k) 2, ← Nat.mul_assoc, ih]
    show step1 (y * 2) = y
    unfold step1
    rw [Nat.mul_mod_left, Nat.zero_mul, Nat.xor_zero]
    omega

/-- Exclusive or, element by element. -/
def xors (a b : List Nat) : List Nat := List.zipWith (· ^^^ ·) a b

theorem reg_xors (a b : List Nat) (h : a.length = b.length) (x y : Nat) : reg (x ^^^ y) (xors a b) = reg x a ^^^ reg y b := by
  induction a generalizing b x y with
  | nil => cases b with
    | nil => rfl
    | cons d b => simp at h
  | cons c a ih =>
    cases b with
    | nil => simp at h
    | cons d b =>
      have h' : a.length = b.length := by simpa using h
      show reg (byteStep (x ^^^ y) (c ^^^ d)) (xors a b) = _
      have e : byteStep (x ^^^ y) (c ^^^ d) = byteStep x c ^^^ byteStep y d := by
        unfold byteStep
        rw [← steps_xor, xor4]
      rw [e, ih b h']
      rfl

theorem reg_zeros (n : Nat) : reg 0 (List.replicate n 0) = 0 := by
  induction n with
  | zero => rfl
  | succ n ih =>
    rw [List.replicate_succ]
    have : byteStep 0 0 = 0 := by unfold byteStep; rw [Nat.xor_self, steps_zero]
    rw [show reg 0 (0 :: List.replicate n 0) = reg (byteStep 0 0) (List.replicate n 0) from rfl, this, ih]

theorem reg_tail_zeros (x n : Nat) : reg x (List.replicate n 0) = steps (8 * n) x := by
  rw [reg_zero_len, reg_zeros, Nat.xor_zero, List.length_replicate]

theorem byte_split (x d : Nat) (hd : d < 256) : x * 256 + d = (x * 2 ^ 8) ^^^ d := by
  apply Nat.eq_of_testBit_eq
  intro i
  have h := Nat.testBit_two_pow_mul_add (i := 8) x (b := d) (by simpa using hd) i
  rw [show x * 256 + d = 2 ^ 8 * x + d from by omega, h, Nat.testBit_xor, Nat.mul_comm x, Nat.testBit_two_pow_mul]
  by_cases hi : i < 8
  · have : ¬ 8 ≤ i := by omega
    simp [hi, this]
  · have h8 : 8 ≤ i := by omega
    have : d.testBit i = false := Nat.testBit_lt_two_pow (Nat.lt_of_lt_of_le (by simpa using hd : d < 2 ^ 8) (Nat.pow_le_pow_right (by omega) h8))
    simp [hi, h8, this]

theorem steps8_byte (x d : Nat) (hd : d < 256) : steps 8 (x * 256 + d) = x ^^^ steps 8 d := by
  rw [byte_split x d hd, steps_xor, steps_even]

/-- The register behind the four bytes of a change. -/
theorem reg_four (v : Nat) : reg 0 [v % 256, v / 256 % 256, v / 65536 % 256, v / 16777216] = steps 32 v := by
  have h0 : steps 8 v = v / 256 ^^^ steps 8 (v % 256) := by
    conv => lhs; rw [show v = v / 256 * 256 + v % 256 from by omega]
    exact steps8_byte _ _ (Nat.mod_lt _ (by omega))
  have h1 : steps 8 (v / 256) = v / 65536 ^^^ steps 8 (v / 256 % 256) := by
    conv => lhs; rw [show v / 256 = v / 65536 * 256 + v / 256 % 256 from by omega]
    exact steps8_byte _ _ (Nat.mod_lt _ (by omega))
  have h2 : steps 8 (v / 65536) = v / 16777216 ^^^ steps 8 (v / 65536 % 256) := by
    conv => lhs; rw [show v / 65536 = v / 16777216 * 256 + v / 65536 % 256 from by omega]
    exact steps8_byte _ _ (Nat.mod_lt _ (by omega))
  show steps 8 (steps 8 (steps 8 (steps 8 (0 ^^^ v % 256) ^^^ v / 256 % 256) ^^^ v / 65536 % 256) ^^^ v / 16777216) = _
  rw [show (32 : Nat) = 8 + (8 + (8 + 8)) from rfl, steps_add, steps_add, steps_add, h0, Nat.zero_xor]
  congr 1
  rw [steps_xor 8 (v / 256), h1, steps_xor 8 (v / 65536 ^^^ _), steps_xor 8 (v / 65536), h2, steps_xor 8 (steps 8 _) (v / 256 % 256), steps_xor 8 (steps 8 (steps 8 _) ^^^ _), steps_xor 8 (steps 8 (steps 8 _))]
  generalize steps 8 (steps 8 (steps 8 (v % 256))) = p
  generalize steps 8 (steps 8 (v / 256 % 256)) = q
  generalize steps 8 (v / 65536 % 256) = r
  generalize v / 16777216 = x
  ac_rfl

/-- A change of up to 32 neighbouring bits: the register differs. -/
theorem burst_ne (i j v x : Nat) (hv : v < 4294967296) (h0 : v ≠ 0) (b : List Nat) (hb : b.length = i + 4 + j) :
    reg x (xors b (List.replicate i 0 ++ [v % 256, v / 256 % 256, v / 65536 % 256, v / 16777216] ++ List.replicate j 0)) ≠ reg x b := by
  intro h
  have e := reg_xors b (List.replicate i 0 ++ [v % 256, v / 256 % 256, v / 65536 % 256, v / 16777216] ++ List.replicate j 0) (by simp [hb]; omega) x 0
  rw [Nat.xor_zero, h, reg_append, reg_append, reg_zeros, reg_four, reg_tail_zeros] at e
  have hne := steps_ne (8 * j) (steps_lt 32 hv) (steps_ne 32 hv h0)
  apply hne
  have : ∀ p q : Nat, p = p ^^^ q → q = 0 := by
    intro p q hpq
    have h2 : p ^^^ (p ^^^ q) = q := by rw [← Nat.xor_assoc, Nat.xor_self, Nat.zero_xor]
    rw [← hpq, Nat.xor_self] at h2
    exact h2.symm
  exact this _ _ e

end Go.Proofs.YtejcakbkldecmaaDoor
