/-
  Plain law: a changed byte of a frame's payload or checksum is the error of the checksum. No program in sight.
-/
import Derived.Test.YtejcakbkldecmaaDoorFrmSpec
namespace Go.Proofs.YtejcakbkldecmaaDoor
set_option linter.unusedVariables false

theorem xor_lt8 {x c : Nat} (hx : x < 256) (hc : c < 256) : x ^^^ c < 256 := by
  have h1 : x < 2 ^ 8 := by omega
  have h2 : c < 2 ^ 8 := by omega
  simpa using Nat.xor_lt_two_pow h1 h2

theorem xor_ne8 {x c : Nat} (h : c ≠ 0) : x ≠ x ^^^ c := by
  intro e
  have : x ^^^ x = x ^^^ (x ^^^ c) := congrArg (x ^^^ ·) e
  rw [Nat.xor_self, ← Nat.xor_assoc, Nat.xor_self, Nat.zero_xor] at this
  exact h this.symm

theorem vbytes_small {n : Nat} (h : n < 128) : vbytes n = [n] := by
  unfold vbytes
  rw [vbF_succ, if_pos h]

theorem frameL_small {l : List Nat} (h : l.length < 128) : frameL l = (startL ++ [l.length]) ++ (l ++ sumBytes (sum l)) := by
  unfold frameL
  rw [vbytes_small h]
  simp

theorem set_mid (a b c : List Nat) (i x : Nat) (h : i < b.length) : (a ++ (b ++ c)).set (a.length + i) x = a ++ (b.set i x ++ c) := by
  rw [List.set_append_right _ _ (by omega), Nat.add_sub_cancel_left, List.set_append_left _ _ h]

theorem set_last (a b c : List Nat) (i x : Nat) : (a ++ (b ++ c)).set (a.length + b.length + i) x = a ++ (b ++ c.set i x) := by
  rw [List.set_append_right _ _ (by omega), List.set_append_right _ _ (by omega)]
  congr 3
  omega

theorem split_set (l : List Nat) (i : Nat) (h : i < l.length) : l = l.take i ++ nth l i :: l.drop (i + 1) := by
  rw [← drop_nth l i h, List.take_append_drop]

theorem set_split (l : List Nat) (i x : Nat) (h : i < l.length) : l.set i x = l.take i ++ x :: l.drop (i + 1) := by
  rw [List.set_eq_take_append_cons_drop, if_pos h]

theorem sum_set {l : List Nat} {i x : Nat} (hl : ∀ c ∈ l, c < 256) (h : i < l.length) (hx : x < 256) (hne : nth l i ≠ x) : sum l ≠ sum (l.set i x) := by
  have e := split_set l i h
  rw [set_split l i x h]
  intro hs
  rw [e] at hs
  have h1 : (l.take i ++ nth l i :: l.drop (i + 1)).take i = l.take i := by rw [← e]
  have h2 : (l.take i ++ nth l i :: l.drop (i + 1)).drop (i + 1) = l.drop (i + 1) := by rw [← e]
  rw [h1, h2] at hs
  exact sum_byte _ _ _ _ (fun c hc => hl c (List.mem_of_mem_take hc)) (fun c hc => hl c (List.mem_of_mem_drop hc)) (nth_lt hl (by omega) i) hx hne hs

/-- A byte of the payload was changed. -/
theorem detect_pay {l : List Nat} {i c : Nat} (hl : ∀ c ∈ l, c < 256) (hn : l.length ≤ 100) (h : i < l.length) (hc : c < 256) (h0 : c ≠ 0) :
    splitRes ((frameL l).set (6 + i) (nth (frameL l) (6 + i) ^^^ c)) 0 1000 = ([], 0, some (14, some ((6 + l.length : Nat) : Int))) := by
  have h6 : (startL ++ [l.length]).length = 6 := rfl
  have e1 : nth (frameL l) (6 + i) = nth l i := by
    rw [frameL_small (by omega), ← h6, nth_app_right]
    simp [nth, h, List.getElem?_append_left]
  have hlt : nth l i < 256 := nth_lt hl (by omega) i
  rw [e1, frameL_small (by omega)]
  have e2 := set_mid (startL ++ [l.length]) l (sumBytes (sum l)) i (nth l i ^^^ c) h
  rw [h6] at e2
  rw [e2]
  have hs := splitRes_start [] (l.set i (nth l i ^^^ c)) (sumBytes (sum l)) [] 1000 (by simp; omega) (by simp; omega) rfl
  rw [List.length_set, vbytes_small (by omega : l.length < 128)] at hs
  have hne := sum_set hl h (xor_lt8 hlt hc) (xor_ne8 h0)
  have hlt2 : ∀ x ∈ l.set i (nth l i ^^^ c), x < 256 := by
    intro x hx
    rcases List.mem_or_eq_of_mem_set hx with h | h
    · exact hl x h
    · rw [h]; exact xor_lt8 hlt hc
  rw [if_neg (fun e => hne (sumBytes_inj (sumlt hlt2) (sumlt hl) e).symm)] at hs
  simp only [List.nil_append, List.append_nil, List.length_nil, Nat.zero_add, ← List.append_assoc, List.length_singleton] at hs ⊢
  exact hs

theorem set_ne {s : List Nat} {i x : Nat} (h : i < s.length) (hne : nth s i ≠ x) : s ≠ s.set i x := by
  intro e
  have h1 : nth (s.set i x) i = x := by simp [nth, h]
  rw [← e] at h1
  exact hne h1

/-- A byte of the checksum was changed. -/
theorem detect_sum {l : List Nat} {k c : Nat} (hl : ∀ c ∈ l, c < 256) (hn : l.length ≤ 100) (h : k < 4) (hc : c < 256) (h0 : c ≠ 0) :
    splitRes ((frameL l).set (6 + l.length + k) (nth (frameL l) (6 + l.length + k) ^^^ c)) 0 1000 = ([], 0, some (14, some ((6 + l.length : Nat) : Int))) := by
  have h6 : (startL ++ [l.length]).length = 6 := rfl
  have e1 : nth (frameL l) (6 + l.length + k) = nth (sumBytes (sum l)) k := by
    rw [frameL_small (by omega), ← h6, ← List.append_assoc, show (startL ++ [l.length]).length + l.length + k = (startL ++ [l.length] ++ l).length + k by simp; omega, nth_app_right]
  rw [e1, frameL_small (by omega)]
  have e2 := set_last (startL ++ [l.length]) l (sumBytes (sum l)) k (nth (sumBytes (sum l)) k ^^^ c)
  rw [h6] at e2
  rw [e2]
  have hs := splitRes_start [] l ((sumBytes (sum l)).set k (nth (sumBytes (sum l)) k ^^^ c)) [] 1000 (by omega) (by omega) (by simp [sumBytes])
  rw [vbytes_small (by omega : l.length < 128), if_neg (set_ne (by simp [sumBytes]; omega) (xor_ne8 h0))] at hs
  simp only [List.nil_append, List.append_nil, List.length_nil, Nat.zero_add, ← List.append_assoc, List.length_singleton] at hs ⊢
  exact hs

theorem split_own {l : List Nat} (hn : l.length ≤ 100) : splitRes (frameL l) 0 1000 = (l, (frameL l).length, none) := by
  have := splitRes_frameL [] l [] 1000 (by omega) (by omega)
  simpa using this

end Go.Proofs.YtejcakbkldecmaaDoor
