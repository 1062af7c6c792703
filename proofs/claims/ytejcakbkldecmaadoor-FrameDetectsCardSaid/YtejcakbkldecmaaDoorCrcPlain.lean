/-
  Plain law: the CRC-32 register on natural numbers, bit by bit: its steps are linear over exclusive or; the reference's way and the program's way of a byte agree. No program in sight.
-/
import Derived.Laws.BitsAllLaws
import Derived.Test.YtejcakbkldecmaaDoorKList
namespace Go.Proofs.YtejcakbkldecmaaDoor
open Go.RowKit

/-- One step of the register. -/
def step1 (x : Nat) : Nat := x / 2 ^^^ (x % 2 * 3988292384)

def steps : Nat → Nat → Nat
  | 0, x => x
  | k + 1, x => step1 (steps k x)

/-- The register behind a byte, behind a list of bytes. -/
def byteStep (x c : Nat) : Nat := steps 8 (x ^^^ c)
def reg (x : Nat) (l : List Nat) : Nat := l.foldl byteStep x

/-- The checksum. -/
def sum (l : List Nat) : Nat := 4294967295 ^^^ reg 4294967295 l

theorem half_xor (a b : Nat) : (a ^^^ b) / 2 = a / 2 ^^^ b / 2 := by
  have h := Nat.shiftRight_xor_distrib (a := a) (b := b) (i := 1)
  simpa [Nat.shiftRight_eq_div_pow] using h

theorem odd_xor (a b : Nat) : (a ^^^ b) % 2 = (a % 2 ^^^ b % 2) := by
  have h := Nat.xor_mod_two_pow (a := a) (b := b) (n := 1)
  simpa using h

theorem pick_xor (p a b : Nat) : ((a % 2 ^^^ b % 2) * p) = (a % 2 * p) ^^^ (b % 2 * p) := by
  rcases Nat.mod_two_eq_zero_or_one a with h | h <;> rcases Nat.mod_two_eq_zero_or_one b with k | k <;> simp [h, k]

theorem xor4 (p q r s : Nat) : (p ^^^ q) ^^^ (r ^^^ s) = (p ^^^ r) ^^^ (q ^^^ s) := by
  rw [Nat.xor_assoc, Nat.xor_assoc, ← Nat.xor_assoc q r s, Nat.xor_comm q r, Nat.xor_assoc r q s]

theorem step1_xor (a b : Nat) : step1 (a ^^^ b) = step1 a ^^^ step1 b := by
  unfold step1
  rw [half_xor, odd_xor, pick_xor]
  exact xor4 _ _ _ _

theorem step1_zero : step1 0 = 0 := by simp [step1]

theorem xor_lt32 {a b : Nat} (h : a < 4294967296) (k : b < 4294967296) : a ^^^ b < 4294967296 := by
  have h' : a < 2 ^ 32 := by simpa using h
  have k' : b < 2 ^ 32 := by simpa using k
  simpa using Nat.xor_lt_two_pow h' k'

theorem step1_lt {x : Nat} (h : x < 4294967296) : step1 x < 4294967296 :=
  xor_lt32 (by omega) (by omega)

theorem steps_xor (k a b : Nat) : steps k (a ^^^ b) = steps k a ^^^ steps k b := by
  induction k with
  | zero => rfl
  | succ k ih => simp only [steps]; rw [ih, step1_xor]

theorem steps_zero (k : Nat) : steps k 0 = 0 := by
  induction k with
  | zero => rfl
  | succ k ih => simp only [steps]; rw [ih, step1_zero]

theorem steps_lt (k : Nat) {x : Nat} (h : x < 4294967296) : steps k x < 4294967296 := by
  induction k with
  | zero => exact h
  | succ k ih => exact step1_lt ih

theorem steps_add (j k x : Nat) : steps (j + k) x = steps j (steps k x) := by
  induction j with
  | zero => simp [steps]
  | succ j ih => rw [Nat.add_right_comm]; simp only [steps]; rw [ih]

theorem byteStep_lt {x c : Nat} (h : x < 4294967296) (hc : c < 256) : byteStep x c < 4294967296 := by
  refine steps_lt 8 ?_
  exact xor_lt32 h (by omega)

theorem reg_lt {x : Nat} {l : List Nat} (h : x < 4294967296) (hl : ∀ c ∈ l, c < 256) : reg x l < 4294967296 := by
  induction l generalizing x with
  | nil => exact h
  | cons c l ih => exact ih (byteStep_lt h (hl c (by simp))) (fun d hd => hl d (by simp [hd]))

theorem reg_append (x : Nat) (a b : List Nat) : reg x (a ++ b) = reg (reg x a) b := by simp [reg, List.foldl_append]

theorem reg_snoc (x : Nat) (l : List Nat) (k : Nat) (h : k < l.length) : reg x (l.take (k + 1)) = byteStep (reg x (l.take k)) (nth l k) := by
  rw [take_nth l k h, reg_append]; rfl

/-! The walk's own spelling of a step. -/
theorem neg_low (x : Nat) : -((x % 2 : Nat) : Int) % 4294967296 = (((x % 2) * 4294967295 : Nat) : Int) := by
  rcases Nat.mod_two_eq_zero_or_one x with h | h <;> rw [h] <;> rfl

theorem and_ones (x : Nat) (hx : x < 4294967296) : x &&& 4294967295 = x := by
  rw [show 4294967295 = 2 ^ 32 - 1 by decide, Nat.and_two_pow_sub_one_eq_mod]
  exact Nat.mod_eq_of_lt hx

theorem low_bit (x : Nat) (hx : x < 4294967296) : bits .and .u32 (x : Int) 1 = ((x % 2 : Nat) : Int) := by
  have h := u32_and_nat x 1 hx (by omega)
  rw [Nat.and_one_is_mod] at h
  exact h

theorem pick_poly (x : Nat) : bits .and .u32 3988292384 (((x % 2) * 4294967295 : Nat) : Int) = ((x % 2 * 3988292384 : Nat) : Int) := by
  have h := u32_and_nat 3988292384 (x % 2 * 4294967295) (by omega) (by omega)
  refine h.trans ?_
  congr 1
  rcases Nat.mod_two_eq_zero_or_one x with h | h <;> rw [h]
  · simp
  · rw [Nat.one_mul, Nat.one_mul]; exact and_ones _ (by decide)

/-- The program's own step is the step. -/
theorem go_step1 (x : Nat) (hx : x < 4294967296) :
    bits .xor .u32 ((x : Int) / 2) (bits .and .u32 3988292384 (-bits .and .u32 (x : Int) 1 % 4294967296)) = ((step1 x : Nat) : Int) := by
  rw [low_bit x hx, neg_low, pick_poly]
  have h := u32_xor_nat (x / 2) (x % 2 * 3988292384) (by omega) (by omega)
  rw [← show (((x / 2 : Nat)) : Int) = (x : Int) / 2 from by simp]
  exact h

theorem go_not (x : Nat) (hx : x < 4294967296) : bits .xor .u32 IntKind.u32.max (x : Int) = ((4294967295 ^^^ x : Nat) : Int) := u32_xor_nat 4294967295 x (by omega) hx

theorem go_byte (x c : Nat) (hx : x < 4294967296) (hc : c < 256) : bits .xor .u32 (x : Int) (c : Int) = ((steps 0 (x ^^^ c) : Nat) : Int) :=
  u32_xor_nat x c hx (by omega)

theorem not_lt {x : Nat} (hx : x < 4294967296) : 4294967295 ^^^ x < 4294967296 := by
  exact xor_lt32 (by omega) hx

theorem not_not (x : Nat) : 4294967295 ^^^ (4294967295 ^^^ x) = x := by rw [← Nat.xor_assoc, Nat.xor_self, Nat.zero_xor]

/-! The reference's way of a byte. -/
def refStep (x bit : Nat) : Nat := if x % 2 ≠ bit then x / 2 ^^^ 3988292384 else x / 2

theorem refStep_lt {x b : Nat} (h : x < 4294967296) : refStep x b < 4294967296 := by
  unfold refStep
  split
  · exact xor_lt32 (by omega) (by omega)
  · omega

def refSteps : Nat → Nat → Nat → Nat
  | 0, x, _ => x
  | k + 1, x, c => refStep (refSteps k x c) (c / 2 ^ k % 2)

theorem refSteps_lt (k : Nat) {x c : Nat} (h : x < 4294967296) : refSteps k x c < 4294967296 := by
  cases k with
  | zero => exact h
  | succ k => exact refStep_lt (refSteps_lt k h)

theorem refStep_xor (x c : Nat) : step1 (x ^^^ c) = refStep x (c % 2) ^^^ c / 2 := by
  unfold step1 refStep
  rw [half_xor, odd_xor]
  generalize x / 2 = p; generalize c / 2 = q
  rcases Nat.mod_two_eq_zero_or_one x with h | h <;> rcases Nat.mod_two_eq_zero_or_one c with k | k <;> simp [h, k]
  · rw [Nat.xor_assoc, Nat.xor_comm q, ← Nat.xor_assoc]
  · rw [Nat.xor_assoc, Nat.xor_comm q, ← Nat.xor_assoc]

theorem refSteps_eq (k x c : Nat) : steps k (x ^^^ c) = refSteps k x c ^^^ c / 2 ^ k := by
  induction k with
  | zero => simp [steps, refSteps]
  | succ k ih =>
    simp only [steps, refSteps]
    rw [ih, refStep_xor, Nat.div_div_eq_div_mul, Nat.pow_succ]

theorem ref_byte (x c : Nat) (hc : c < 256) : refSteps 8 x c = byteStep x c := by
  unfold byteStep
  rw [refSteps_eq, show c / 2 ^ 8 = 0 from by omega, Nat.xor_zero]

theorem ref_not (x : Nat) (hx : x < 4294967296) : 4294967295 - x = 4294967295 ^^^ x := by
  apply Nat.eq_of_testBit_eq
  intro i
  rw [show 4294967295 - x = 2 ^ 32 - (x + 1) from by omega, Nat.testBit_two_pow_sub_succ (by omega), Nat.testBit_xor, show 4294967295 = 2 ^ 32 - 1 by decide, Nat.testBit_two_pow_sub_one]
  by_cases hi : i < 32
  · simp [hi]
  · have : x.testBit i = false := Nat.testBit_lt_two_pow (Nat.lt_of_lt_of_le hx (by
      have : 2 ^ 32 ≤ 2 ^ i := Nat.pow_le_pow_right (by omega) (by omega)
      simpa using this))
    simp [hi, this]

end Go.Proofs.YtejcakbkldecmaaDoor
