/-
  Plain law: a frame is read back; what is read is a frame; a changed byte is seen. No program in sight.
-/
import Derived.Test.YtejcakbkldecmaaDoorFrmBytes
import Derived.Test.YtejcakbkldecmaaDoorCrcMat
namespace Go.Proofs.YtejcakbkldecmaaDoor
set_option linter.unusedVariables false

theorem orAt_add {x n c : Nat} (hx : x < 2 ^ (7 * n)) (hc : c % 128 * 2 ^ (7 * n) < 18446744073709551616) : orAt x n c = x + c % 128 * 2 ^ (7 * n) := by
  unfold orAt
  rw [Nat.mod_eq_of_lt hc, Nat.or_comm, Nat.mul_comm, ← Nat.two_pow_add_eq_or_of_lt hx, Nat.add_comm]

theorem nextState_end {j c : Nat} (h1 : c < 128) (h2 : j = 9 → c ≤ 1) (h3 : 0 < j → 0 < c) : nextState j c = 1 := by
  unfold nextState
  rw [if_neg (by omega), if_pos h1]

theorem nextState_go {j c : Nat} (h1 : 128 ≤ c) (h2 : j < 9) : nextState j c = 0 := by
  unfold nextState
  rw [if_neg (by omega), if_neg (by omega)]

theorem scan_vb : ∀ (k j y x0 : Nat) (rest : List Nat), k + j = 9 → x0 < 2 ^ (7 * j) → y * 2 ^ (7 * j) < 18446744073709551616 → (0 < j → 0 < y) →
    scan (vbF k y ++ rest) j x0 = (1, x0 + y * 2 ^ (7 * j), j + (vbF k y).length)
  | 0, j, y, x0, rest, hk, hx, hy, hp => by
    obtain rfl : j = 9 := by omega
    have hy1 : y = 1 := by
      have := hp (by omega)
      simp at hy
      omega
    subst hy1
    have hs := nextState_end (j := 9) (c := 1) (by omega) (fun _ => by omega) (fun _ => by omega)
    have ho := orAt_add (n := 9) (c := 1) hx (by decide)
    show scan (1 :: rest) 9 x0 = _
    simp only [scan, hs, ho]
    rfl
  | k + 1, j, y, x0, rest, hk, hx, hy, hp => by
    rw [vbF_succ]
    split
    · rename_i h1
      have hs := nextState_end (j := j) (c := y) h1 (by omega) hp
      have hm : y % 128 = y := by omega
      have ho := orAt_add (c := y) hx (by rw [hm]; exact hy)
      rw [hm] at ho
      simp only [List.cons_append, List.nil_append, scan, hs, ho]
      rfl
    · rename_i h1
      have hs := nextState_go (j := j) (c := y % 128 + 128) (by omega) (by omega)
      have hm : (y % 128 + 128) % 128 = y % 128 := by omega
      have hle : y % 128 * 2 ^ (7 * j) ≤ y * 2 ^ (7 * j) := Nat.mul_le_mul_right _ (Nat.mod_le _ _)
      have ho := orAt_add (c := y % 128 + 128) hx (by rw [hm]; omega)
      rw [hm] at ho
      have h7 : 2 ^ (7 * (j + 1)) = 2 ^ (7 * j) * 128 := by rw [show 7 * (j + 1) = 7 * j + 7 from by omega, Nat.pow_add]
      have hsplit : y * 2 ^ (7 * j) = y % 128 * 2 ^ (7 * j) + y / 128 * (2 ^ (7 * j) * 128) := by
        have e : y = y % 128 + y / 128 * 128 := by omega
        have : (y % 128 + y / 128 * 128) * 2 ^ (7 * j) = y % 128 * 2 ^ (7 * j) + y / 128 * (2 ^ (7 * j) * 128) := by
          rw [Nat.add_mul, Nat.mul_assoc, Nat.mul_comm 128]
        rw [← e] at this
        exact this
      have ih := scan_vb k (j + 1) (y / 128) (x0 + y % 128 * 2 ^ (7 * j)) rest (by omega) (by
        rw [h7]
        have : y % 128 * 2 ^ (7 * j) ≤ 127 * 2 ^ (7 * j) := Nat.mul_le_mul_right _ (by omega)
        omega) (by rw [h7]; omega) (fun _ => by omega)
      simp only [List.cons_append, scan, hs, ho]
      simp only [show ¬ (0 : Nat) = 2 from by omega, show ¬ (0 : Nat) = 1 from by omega, if_false, ih, h7, List.length_cons]
      rw [hsplit]
      simp only [Prod.mk.injEq, true_and]
      omega

/-- Reading the bytes of a number back. -/
theorem scan_vbytes (x : Nat) (rest : List Nat) (h : x < 18446744073709551616) : scan (vbytes x ++ rest) 0 0 = (1, x, (vbytes x).length) := by
  have := scan_vb 9 0 x 0 rest (by omega) (by decide) (by simpa using h) (by omega)
  simpa [vbytes] using this

theorem ten {j : Nat} (h : j ≤ 9) : j = 0 ∨ j = 1 ∨ j = 2 ∨ j = 3 ∨ j = 4 ∨ j = 5 ∨ j = 6 ∨ j = 7 ∨ j = 8 ∨ j = 9 := by omega

theorem more_lt {j y c : Nat} (hj : j < 9) (hc : c < 128) (h : y * 2 ^ (7 * (j + 1)) < 18446744073709551616) : (c + y * 128) * 2 ^ (7 * j) < 18446744073709551616 := by
  have e64 : 18446744073709551616 = 2 ^ (7 * j) * (128 * 2 ^ (57 - 7 * j)) := by
    rw [show 128 = 2 ^ 7 from rfl, ← Nat.pow_add, ← Nat.pow_add, show 7 * j + (7 + (57 - 7 * j)) = 64 by omega]
  have h7 : 2 ^ (7 * (j + 1)) = 2 ^ (7 * j) * 128 := by rw [show 7 * (j + 1) = 7 * j + 7 from by omega, Nat.pow_add]
  rw [h7, e64] at h
  rw [e64]
  generalize 2 ^ (57 - 7 * j) = Q at *
  have hP : 0 < 2 ^ (7 * j) := Nat.two_pow_pos _
  generalize 2 ^ (7 * j) = P at *
  have h1 : P * (y * 128) < P * (128 * Q) := by rw [← Nat.mul_assoc, Nat.mul_comm P y, Nat.mul_assoc]; exact h
  have h2 := Nat.lt_of_mul_lt_mul_left h1
  rw [Nat.mul_comm _ P]
  exact Nat.mul_lt_mul_of_pos_left (by omega) hP

/-- What was read is the bytes of the number. -/
theorem scan_inv : ∀ (l : List Nat) (j x0 x m : Nat), j ≤ 9 → x0 < 2 ^ (7 * j) → (∀ c ∈ l, c < 256) → scan l j x0 = (1, x, m) →
    ∃ y, y * 2 ^ (7 * j) < 18446744073709551616 ∧ (0 < j → 0 < y) ∧ m ≤ j + l.length ∧ l.take (m - j) = vbF (9 - j) y ∧ j < m ∧ x = x0 + y * 2 ^ (7 * j)
  | [], j, x0, x, m, hj, hx, hl, h => by simp [scan] at h
  | c :: l, j, x0, x, m, hj, hx, hl, h => by
    have hc := hl c (List.mem_cons_self ..)
    rw [scan] at h
    split at h
    · simp at h
    · rename_i h2
      split at h
      · rename_i h1
        simp only [Prod.mk.injEq, true_and] at h
        obtain ⟨hxx, rfl⟩ := h
        have hcc : c < 128 ∧ (j = 9 → c ≤ 1) ∧ (0 < j → 0 < c) := by
          unfold nextState at h1
          split at h1
          · omega
          · split at h1 <;> omega
        obtain ⟨g1, g2, g3⟩ := hcc
        have hm : c % 128 = c := by omega
        have hlt : c * 2 ^ (7 * j) < 18446744073709551616 := by
          rcases ten hj with rfl | rfl | rfl | rfl | rfl | rfl | rfl | rfl | rfl | rfl <;> simp at g2 ⊢ <;> omega
        have ho := orAt_add (c := c) hx (by rw [hm]; exact hlt)
        rw [hm] at ho
        refine ⟨c, hlt, g3, by simp, ?_, by omega, by rw [← hxx, ho]⟩
        rw [show j + 1 - j = 1 by omega]
        by_cases h9 : j = 9
        · subst h9
          simp [vbF]
          omega
        · rw [show 9 - j = (8 - j) + 1 by omega, vbF_succ, if_pos g1]
          simp
      · rename_i h1
        have hst : nextState j c = 0 := by rcases nextState_le j c with e | e | e <;> omega
        have hj9 : j ≠ 9 := by rintro rfl; exact nextState9 c hst
        have hc128 : 128 ≤ c := by
          unfold nextState at hst
          split at hst
          · omega
          · split at hst <;> omega
        have hlt : c % 128 * 2 ^ (7 * j) < 18446744073709551616 := by
          rcases ten hj with rfl | rfl | rfl | rfl | rfl | rfl | rfl | rfl | rfl | rfl <;> simp only [Nat.reduceMul, Nat.reducePow] at hj9 ⊢ <;> omega
        have ho := orAt_add (c := c) hx hlt
        have h7 : 2 ^ (7 * (j + 1)) = 2 ^ (7 * j) * 128 := by rw [show 7 * (j + 1) = 7 * j + 7 from by omega, Nat.pow_add]
        obtain ⟨y, y1, y2, y3, y4, y5, y6⟩ := scan_inv l (j + 1) (orAt x0 j c) x m (by omega) (by
          rw [ho, h7]
          have : c % 128 * 2 ^ (7 * j) ≤ 127 * 2 ^ (7 * j) := Nat.mul_le_mul_right _ (by omega)
          omega) (fun c hc => hl c (List.mem_cons_of_mem _ hc)) h
        have hy := y2 (by omega)
        refine ⟨c % 128 + y * 128, more_lt (by omega) (by omega) y1, fun _ => by omega, by simp; omega, ?_, by omega, ?_⟩
        · rw [show m - j = (m - (j + 1)) + 1 by omega, List.take_succ_cons, y4, show 9 - j = (8 - j) + 1 by omega, vbF_succ, if_neg (by omega), show 9 - (j + 1) = 8 - j by omega]
          congr 2 <;> omega
        · rw [y6, ho, h7, Nat.add_mul, Nat.mul_assoc, Nat.mul_comm 128]
          omega

theorem scan_vb_inv {l : List Nat} {x m : Nat} (hl : ∀ c ∈ l, c < 256) (h : scan l 0 0 = (1, x, m)) : m ≤ l.length ∧ l.take m = vbytes x ∧ x < 18446744073709551616 := by
  obtain ⟨y, h1, -, h3, h4, -, h6⟩ := scan_inv l 0 0 x m (by omega) (by decide) hl h
  simp at h1 h6 h3 h4
  subst h6
  exact ⟨h3, h4, h1⟩

theorem headBad_iff {l : List Nat} {p : Nat} (h : headBad l p = none) : p + 5 ≤ l.length ∧ (l.drop p).take 5 = startL := by
  unfold headBad at h
  rw [List.findSome?_eq_none_iff] at h
  have g : ∀ i, i < 5 → p + i < l.length ∧ nth l (p + i) = nth startL i := by
    intro i hi
    have := h i (by simp; omega)
    unfold headAt at this
    split at this
    · cases this
    · split at this
      · exact ⟨by omega, by assumption⟩
      · cases this
  have g0 := g 0 (by omega); have g1 := g 1 (by omega); have g2 := g 2 (by omega); have g3 := g 3 (by omega); have g4 := g 4 (by omega)
  refine ⟨by omega, ?_⟩
  rw [drop_nth l p (by omega), drop_nth l (p + 1) (by omega), drop_nth l (p + 1 + 1) (by omega), drop_nth l (p + 1 + 1 + 1) (by omega), drop_nth l (p + 1 + 1 + 1 + 1) (by omega)]
  simp only [List.take_succ_cons, List.take_zero]
  simp only [Nat.add_assoc, Nat.reduceAdd, Nat.add_zero] at *
  rw [g0.2, g1.2, g2.2, g3.2, g4.2]
  rfl

theorem headRes_inv {l : List Nat} {p s k : Nat} {most : Int} (hl : ∀ c ∈ l, c < 256) (h : headRes l p most = (s, k, none)) : p + 5 ≤ s ∧ s ≤ l.length ∧ (l.drop p).take (s - p) = startL ++ vbytes k := by
  unfold headRes at h
  split at h
  · cases h
  · rename_i hb
    obtain ⟨b1, b2⟩ := headBad_iff hb
    split at h
    · rename_i x j hs
      split at h
      · cases h
      · cases h
        obtain ⟨c1, c2, c3⟩ := scan_vb_inv (fun c hc => hl c (List.mem_of_mem_drop hc)) hs
        rw [List.length_drop] at c1
        refine ⟨by omega, by omega, ?_⟩
        rw [show p + 5 + j - p = 5 + j by omega, List.take_add, b2, List.drop_drop, c2]
    · cases h
    · cases h

/-- What Split takes is a frame. -/
theorem splitRes_inv {l q : List Nat} {p n : Nat} {most : Int} (hl : ∀ c ∈ l, c < 256) (h : splitRes l p most = (q, n, none)) : p ≤ n ∧ n ≤ l.length ∧ (l.drop p).take (n - p) = frameL q := by
  rcases hh : headRes l p most with ⟨s, k, c⟩
  cases c with
  | some c => rw [splitRes_bad hh] at h; cases h
  | none =>
    obtain ⟨i1, i2, i3⟩ := headRes_inv hl hh
    by_cases hb : l.length - s < k ∨ l.length - s - k < 4
    · rw [splitRes_short hh hb] at h; cases h
    · by_cases hs : sumBytes (sum ((l.drop s).take k)) = (l.drop (s + k)).take 4
      · rw [splitRes_good hh hb hs] at h
        cases h
        have hk : ((l.drop s).take k).length = k := by rw [List.length_take, List.length_drop]; omega
        refine ⟨by omega, by omega, ?_⟩
        unfold frameL
        rw [hk, ← i3, hs, show s + k + 4 - p = (s - p) + (k + 4) by omega, List.take_add, List.append_assoc]
        congr 1
        rw [List.drop_drop, show p + (s - p) = s by omega, List.take_add, List.drop_drop]
      · rw [splitRes_sum hh hb hs] at h; cases h

theorem nth_app_right (a b : List Nat) (k : Nat) : nth (a ++ b) (a.length + k) = nth b k := by
  simp [nth, List.getElem?_append_right]

theorem headBad_start (pre rest : List Nat) : headBad (pre ++ startL ++ rest) pre.length = none := by
  refine headBad_none fun j hj => headAt_ok (by simp [startL]; omega) ?_
  rw [List.append_assoc, nth_app_right]
  obtain rfl | rfl | rfl | rfl | rfl : j = 0 ∨ j = 1 ∨ j = 2 ∨ j = 3 ∨ j = 4 := by omega
  all_goals rfl

theorem drop_app (a b : List Nat) (k : Nat) (h : k = a.length) : (a ++ b).drop k = b := by subst h; simp

theorem headRes_start (pre rest : List Nat) (k : Nat) (most : Int) (hk : k < 18446744073709551616) (hm : (k : Int) ≤ most) : headRes (pre ++ startL ++ vbytes k ++ rest) pre.length most = (pre.length + 5 + (vbytes k).length, k, none) := by
  unfold headRes
  rw [show pre ++ startL ++ vbytes k ++ rest = pre ++ startL ++ (vbytes k ++ rest) by simp, headBad_start]
  simp only
  rw [drop_app (pre ++ startL) _ _ (by simp [startL]), scan_vbytes k rest hk]
  simp only
  rw [if_neg (by omega)]

theorem splitRes_start (pre q s suf : List Nat) (most : Int) (hk : q.length < 18446744073709551616) (hm : (q.length : Int) ≤ most) (hs : s.length = 4) :
    splitRes (pre ++ startL ++ vbytes q.length ++ q ++ s ++ suf) pre.length most =
      if sumBytes (sum q) = s then (q, pre.length + 5 + (vbytes q.length).length + q.length + 4, none) else ([], 0, some (14, some ((pre.length + 5 + (vbytes q.length).length + q.length : Nat) : Int))) := by
  have h := headRes_start pre (q ++ s ++ suf) q.length most hk hm
  simp only [← List.append_assoc] at h
  have h5 : startL.length = 5 := rfl
  have hb : ¬ ((pre ++ startL ++ vbytes q.length ++ q ++ s ++ suf).length - (pre.length + 5 + (vbytes q.length).length) < q.length ∨ (pre ++ startL ++ vbytes q.length ++ q ++ s ++ suf).length - (pre.length + 5 + (vbytes q.length).length) - q.length < 4) := by
    simp only [List.length_append, hs, h5]; omega
  have e1 : ((pre ++ startL ++ vbytes q.length ++ q ++ s ++ suf).drop (pre.length + 5 + (vbytes q.length).length)).take q.length = q := by
    rw [show pre ++ startL ++ vbytes q.length ++ q ++ s ++ suf = (pre ++ startL ++ vbytes q.length) ++ (q ++ (s ++ suf)) by simp, drop_app _ _ _ (by simp only [List.length_append, h5])]
    simp
  have e2 : ((pre ++ startL ++ vbytes q.length ++ q ++ s ++ suf).drop (pre.length + 5 + (vbytes q.length).length + q.length)).take 4 = s := by
    rw [show pre ++ startL ++ vbytes q.length ++ q ++ s ++ suf = (pre ++ startL ++ vbytes q.length ++ q) ++ (s ++ suf) by simp, drop_app _ _ _ (by simp only [List.length_append, h5])]
    rw [← hs]; simp
  by_cases hq : sumBytes (sum q) = s
  · rw [if_pos hq, splitRes_good h hb (by rw [e1, e2]; exact hq), e1]
  · rw [if_neg hq, splitRes_sum h hb (by rw [e1, e2]; exact hq)]

/-- A frame is read back. -/
theorem splitRes_frameL (pre q suf : List Nat) (most : Int) (hk : q.length < 18446744073709551616) (hm : (q.length : Int) ≤ most) :
    splitRes (pre ++ frameL q ++ suf) pre.length most = (q, pre.length + (frameL q).length, none) := by
  have h := splitRes_start pre q (sumBytes (sum q)) suf most hk hm rfl
  rw [if_pos rfl] at h
  unfold frameL
  simp only [← List.append_assoc] at h ⊢
  rw [h]
  simp [startL, sumBytes]
  omega

theorem steps_inj (k : Nat) {x y : Nat} (hx : x < 4294967296) (hy : y < 4294967296) (h : steps k x = steps k y) : x = y := by
  refine xor_zero ?_
  refine Classical.byContradiction fun h0 => steps_ne k (xor_lt32 hx hy) h0 ?_
  rw [steps_xor, h, Nat.xor_self]

theorem xor_right_inj {a b c : Nat} (h : a ^^^ c = b ^^^ c) : a = b := by
  have := congrArg (· ^^^ c) h
  simpa [Nat.xor_assoc] using this

theorem reg_inj : ∀ (l : List Nat) (x y : Nat), (∀ c ∈ l, c < 256) → x < 4294967296 → y < 4294967296 → reg x l = reg y l → x = y
  | [], x, y, _, _, _, h => h
  | c :: l, x, y, hl, hx, hy, h => by
    have hc := hl c (List.mem_cons_self ..)
    have := reg_inj l (byteStep x c) (byteStep y c) (fun c hc => hl c (List.mem_cons_of_mem _ hc)) (byteStep_lt hx hc) (byteStep_lt hy hc) h
    exact xor_right_inj (steps_inj 8 (xor_lt32 hx (by omega)) (xor_lt32 hy (by omega)) this)

/-- A changed byte changes the sum. -/
theorem sum_byte (a b : List Nat) (c d : Nat) (ha : ∀ x ∈ a, x < 256) (hb : ∀ x ∈ b, x < 256) (hc : c < 256) (hd : d < 256) (h : c ≠ d) : sum (a ++ c :: b) ≠ sum (a ++ d :: b) := by
  intro e
  have e1 : reg 4294967295 (a ++ c :: b) = reg 4294967295 (a ++ d :: b) := by
    have := congrArg (4294967295 ^^^ ·) e
    simpa [sum, not_not] using this
  rw [reg_append, reg_append] at e1
  have hr := reg_lt (x := 4294967295) (by omega) ha
  have := reg_inj b _ _ hb (byteStep_lt hr hc) (byteStep_lt hr hd) e1
  have h2 := steps_inj 8 (xor_lt32 hr (by omega)) (xor_lt32 hr (by omega)) this
  rw [Nat.xor_comm _ c, Nat.xor_comm _ d] at h2
  exact h (xor_right_inj h2)

theorem sumBytes_inj {x y : Nat} (hx : x < 4294967296) (hy : y < 4294967296) (h : sumBytes x = sumBytes y) : x = y := by
  simp [sumBytes] at h
  omega

end Go.Proofs.YtejcakbkldecmaaDoor
