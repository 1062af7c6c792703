/-
  Plain law: the bytes of a number (groups of seven bits), and reading them. No program in sight.
-/
import Derived.Test.YtejcakbkldecmaaDoorKList
import Derived.Lib.BitFns
import Derived.Laws.BitsAllLaws
namespace Go.Proofs.YtejcakbkldecmaaDoor

/-- The bytes of a number, with fuel. -/
def vbF : Nat → Nat → List Nat
  | 0, x => [x % 256]
  | k + 1, x => if x < 128 then [x] else (x % 128 + 128) :: vbF k (x / 128)

theorem vbF_succ (k x : Nat) : vbF (k + 1) x = if x < 128 then [x] else (x % 128 + 128) :: vbF k (x / 128) := rfl

def vbytes (x : Nat) : List Nat := vbF 9 x

theorem vbytes_eq (x : Nat) : vbytes x = vbF 9 x := rfl

theorem vbF_lt : ∀ (k x : Nat), ∀ b ∈ vbF k x, b < 256
  | 0, x, b, hb => by simp [vbF] at hb; omega
  | k + 1, x, b, hb => by
    rw [vbF_succ] at hb
    split at hb
    · simp at hb; omega
    · rcases List.mem_cons.1 hb with rfl | hb
      · omega
      · exact vbF_lt k (x / 128) b hb

theorem vbytes_lt (x : Nat) : ∀ b ∈ vbytes x, b < 256 := vbF_lt 9 x

theorem vbF_pos (k x : Nat) : 0 < (vbF k x).length := by
  cases k with
  | zero => simp [vbF]
  | succ k => rw [vbF_succ]; split <;> simp

theorem vbF_len_le : ∀ (k x : Nat), (vbF k x).length ≤ k + 1
  | 0, x => by simp [vbF]
  | k + 1, x => by
    rw [vbF_succ]
    split
    · simp
    · have := vbF_len_le k (x / 128); simp; omega

theorem vbF_more {k x : Nat} (h : 1 < (vbF k x).length) : ∃ k', k = k' + 1 ∧ 128 ≤ x ∧ vbF k x = (x % 128 + 128) :: vbF k' (x / 128) := by
  cases k with
  | zero => simp [vbF] at h
  | succ k =>
    rw [vbF_succ] at h ⊢
    split at h
    · simp at h
    · rename_i h1; rw [if_neg h1]; exact ⟨k, rfl, by omega, rfl⟩

theorem vbF_last {k m : Nat} (h : (vbF k m).length = 1) : vbF k m = [m % 256] := by
  cases k with
  | zero => rfl
  | succ k =>
    rw [vbF_succ] at h ⊢
    split at h
    · rename_i h1; rw [if_pos h1]; congr 1; omega
    · have := vbF_pos k (m / 128); rw [List.length_cons] at h; exfalso; omega

theorem bitLen_small : ∀ n : Fin 128, Lib.bitLen n.val ≤ 7 := by decide +kernel

theorem size_eq : ∀ (k x : Nat), x < 2 ^ (7 * k + 1) → x < 18446744073709551616 → max 1 ((Lib.bitLen x + 6) / 7) = (vbF k x).length
  | 0, x, h, _ => by
    simp at h
    have := bitLen_small ⟨x, by omega⟩
    simp [vbF]
    simp at this
    omega
  | k + 1, x, h, h64 => by
    rw [vbF_succ]
    split
    · rename_i h1
      have := bitLen_small ⟨x, h1⟩
      simp at this ⊢
      omega
    · rename_i h1
      have e : 2 ^ (7 * (k + 1) + 1) = 2 ^ (7 * k + 1) * 128 := by rw [show 7 * (k + 1) + 1 = (7 * k + 1) + 7 from by omega, Nat.pow_add]
      rw [e] at h
      have hd : x / 128 < 2 ^ (7 * k + 1) := by
        clear e
        generalize 2 ^ (7 * k + 1) = P at *
        exact Nat.div_lt_of_lt_mul (by omega)
      have ih := size_eq k (x / 128) hd (Nat.lt_of_le_of_lt (Nat.div_le_self _ _) h64)
      have hs := Lib.bitLen_shift 7 x (by omega) (by simpa using h64)
      rw [show 2 ^ 7 = 128 from rfl] at hs
      have hp := vbF_pos k (x / 128)
      have hz : 0 < Lib.bitLen (x / 128) ∨ Lib.bitLen (x / 128) = 0 := by omega
      simp only [List.length_cons, ← ih, hs]
      have : (7 + Lib.bitLen (x / 128) + 6) / 7 = (Lib.bitLen (x / 128) + 6) / 7 + 1 := by omega
      rw [this]
      have h0 : 0 < Lib.bitLen (x / 128) := by
        have hne : x / 128 ≠ 0 := by omega
        have := Lib.bitLen_half (x / 128) hne (by have := Nat.div_le_self x 128; simp; omega)
        omega
      omega

theorem vbytes_size {x : Nat} (h : x < 18446744073709551616) : max 1 ((Lib.bitLen x + 6) / 7) = (vbytes x).length := size_eq 9 x (by simpa using h) h

theorem or128_nat : ∀ x : Fin 256, x.val ||| 128 = x.val % 128 + 128 := by decide +kernel

theorem or128 (x : Nat) (hx : x < 256) : bits .or .u8 (x : Int) 128 = ((x % 128 + 128 : Nat) : Int) := by
  have h := u8_or_nat x 128 hx (by omega)
  refine h.trans ?_
  congr 1
  exact or128_nat ⟨x, hx⟩

/-! Reading. -/
/-- The state behind a byte, n bytes taken before. -/
def nextState (n c : Nat) : Nat := if (n = 9 ∧ 1 < c) ∨ (0 < n ∧ c = 0) then 2 else if c < 128 then 1 else 0
/-- The number behind a byte. -/
def orAt (x n c : Nat) : Nat := x ||| (c % 128 * 2 ^ (7 * n) % 18446744073709551616)

theorem orAt_lt {x : Nat} (n c : Nat) (h : x < 18446744073709551616) : orAt x n c < 18446744073709551616 := by
  have h1 : x < 2 ^ 64 := by simpa using h
  have h2 : c % 128 * 2 ^ (7 * n) % 18446744073709551616 < 2 ^ 64 := by simpa using Nat.mod_lt (c % 128 * 2 ^ (7 * n)) (show 18446744073709551616 > 0 by omega)
  simpa [orAt] using Nat.or_lt_two_pow h1 h2

/-- The state (0 more, 1 done, 2 wrong), the number, and how many bytes were taken: j bytes were taken before. -/
def scan : List Nat → Nat → Nat → Nat × Nat × Nat
  | [], j, _ => (0, 0, j)
  | c :: l, j, x => if nextState j c = 2 then (2, 0, j + 1) else if nextState j c = 1 then (1, orAt x j c, j + 1) else scan l (j + 1) (orAt x j c)

end Go.Proofs.YtejcakbkldecmaaDoor
