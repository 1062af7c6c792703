/-
  Walk: CrcBursts.
-/
import Derived.Test.YteonpcckifkafaaCrcAlive
import Derived.Test.YteonpcckifkafaaCrcMat
import Derived.Deep.AppendLies
namespace Go.Proofs.Yteonpcckifkafaa
open Go.RowKit Go.Joins
set_option linter.unusedVariables false

/-- The byte number k of a change. -/
def chb (v k : Nat) : Nat := v / 2 ^ (8 * k) % 256
/-- The bytes behind k rounds. -/
def mix (l : List Nat) (i v : Nat) : Nat → List Nat
  | 0 => l
  | k + 1 => (mix l i v k).set (i + k) (nth (mix l i v k) (i + k) ^^^ chb v k)

theorem mix_len (l : List Nat) (i v k : Nat) : (mix l i v k).length = l.length := by
  induction k with
  | zero => rfl
  | succ k ih => simp [mix, ih]

theorem mix_lt (l : List Nat) (i v k : Nat) (h : ∀ x ∈ l, x < 256) : ∀ x ∈ mix l i v k, x < 256 := by
  induction k with
  | zero => exact h
  | succ k ih =>
    intro x hx
    rcases List.mem_or_eq_of_mem_set hx with hx | rfl
    · exact ih x hx
    · have h1 : nth (mix l i v k) (i + k) < 2 ^ 8 := by simpa using nth_lt ih (by omega) (i + k)
      have h2 : chb v k < 2 ^ 8 := by have := Nat.mod_lt (v / 2 ^ (8 * k)) (show 256 > 0 by omega); simpa [chb] using this
      simpa using Nat.xor_lt_two_pow h1 h2

theorem nth_set (l : List Nat) (j x p : Nat) (hp : p < l.length) : nth (l.set j x) p = if p = j then x else nth l p := by
  unfold nth
  rw [List.getD_eq_getElem?_getD, List.getD_eq_getElem?_getD, List.getElem?_set]
  by_cases h : p = j
  · subst h; simp [hp]
  · simp [h, Ne.symm h]

theorem nth_mix (l : List Nat) (i v k p : Nat) (hp : p < l.length) : nth (mix l i v k) p = nth l p ^^^ (if i ≤ p ∧ p < i + k then chb v (p - i) else 0) := by
  induction k with
  | zero => rw [if_neg (by omega), Nat.xor_zero]; rfl
  | succ k ih =>
    rw [mix, nth_set _ _ _ _ (by rw [mix_len]; exact hp)]
    by_cases h : p = i + k
    · subst h
      rw [if_pos rfl, ih, if_neg (by omega), if_pos (by omega), Nat.xor_zero, show i + k - i = k from by omega]
    · rw [if_neg h, ih]
      congr 1
      by_cases h2 : i ≤ p ∧ p < i + k
      · rw [if_pos h2, if_pos (by omega)]
      · rw [if_neg h2, if_neg (by omega)]

theorem nth_xors (a b : List Nat) (p : Nat) (ha : p < a.length) (hb : p < b.length) : nth (xors a b) p = nth a p ^^^ nth b p := by
  simp [nth, xors, ha, hb, List.getElem?_zipWith]

theorem nth_append_left (a b : List Nat) (p : Nat) (h : p < a.length) : nth (a ++ b) p = nth a p := by simp [nth, List.getElem?_append_left h]
theorem nth_append_right (a b : List Nat) (p : Nat) (h : a.length ≤ p) : nth (a ++ b) p = nth b (p - a.length) := by simp [nth, List.getElem?_append_right h]
theorem nth_zeros (k p : Nat) : nth (List.replicate k 0) p = 0 := by
  unfold nth
  rw [List.getD_eq_getElem?_getD, List.getElem?_replicate]
  split <;> rfl

theorem ext_nth {a b : List Nat} (h : a.length = b.length) (e : ∀ p, p < a.length → nth a p = nth b p) : a = b := by
  apply List.ext_getElem h
  intro p h1 h2
  have := e p h1
  simpa [nth, h1, h2] using this

theorem mix_xors (l : List Nat) (i v : Nat) (h : i + 4 ≤ l.length) (hv : v < 4294967296) :
    mix l i v 4 = xors l (List.replicate i 0 ++ [v % 256, v / 256 % 256, v / 65536 % 256, v / 16777216] ++ List.replicate (l.length - i - 4) 0) := by
  have hl : (List.replicate i 0 ++ [v % 256, v / 256 % 256, v / 65536 % 256, v / 16777216] ++ List.replicate (l.length - i - 4) 0).length = l.length := by simp; omega
  apply ext_nth
  · rw [mix_len, xors, List.length_zipWith, hl]; omega
  · intro p hp
    rw [mix_len] at hp
    rw [nth_mix l i v 4 p hp, nth_xors _ _ _ hp (by rw [hl]; exact hp)]
    congr 1
    by_cases h1 : p < i
    · rw [if_neg (by omega), List.append_assoc, nth_append_left _ _ _ (by simpa using h1), nth_zeros]
    · by_cases h2 : p < i + 4
      · rw [if_pos (by omega), nth_append_left _ _ _ (by simp; omega), nth_append_right _ _ _ (by simp; omega), List.length_replicate]
        obtain e | e | e | e : p - i = 0 ∨ p - i = 1 ∨ p - i = 2 ∨ p - i = 3 := by omega
        all_goals rw [e]
        · simp [nth, chb]
        · simp [nth, chb]
        · simp [nth, chb]
        · simp [nth, chb]; omega
      · rw [if_neg (by omega), nth_append_right _ _ _ (by simp; omega), nth_zeros]

theorem sum_burst (l : List Nat) (i v : Nat) (h : i + 4 ≤ l.length) (hv : v < 4294967296) (h0 : v ≠ 0) : sum l ≠ sum (mix l i v 4) := by
  intro e
  unfold sum at e
  have e2 : reg 4294967295 l = reg 4294967295 (mix l i v 4) := by
    have h1 := not_not (reg 4294967295 l)
    rw [e, not_not] at h1
    exact h1.symm
  rw [mix_xors l i v h hv] at e2
  exact burst_ne i (l.length - i - 4) v 4294967295 hv h0 l (by omega) e2.symm

theorem go_chb (q v k : Nat) (hq : q < 256) : bits .xor .u8 (q : Int) ((v : Int) / 2 ^ (8 * k) % 256) = ((q ^^^ chb v k : Nat) : Int) := by
  have e : ((v : Int) / 2 ^ (8 * k) % 256) = ((chb v k : Nat) : Int) := by
    unfold chb
    rw [Int.natCast_emod, Int.natCast_ediv, Int.natCast_pow]
    rfl
  rw [e]
  exact u8_xor_nat q (chb v k) hq (by unfold chb; omega)

theorem u8s_set (l : List Nat) (j x : Nat) : (u8s l).set j (.int .u8 ((x : Nat) : Int)) = u8s (l.set j x) := by unfold u8s; rw [List.map_set]

set_option maxHeartbeats 2000000 in
theorem walkCrcBursts (a : Option Addr) (n cap : Nat) (zs : List Int) (x y : Int) (w : World) (h : InRow .u8 w a n cap zs) (hx : (Lit.int .u16 x).wf = true) (hy : (Lit.int .u32 y).wf = true) :
    Calls Try.prog 5 #[.slice a n cap, .int .u16 x, .int .u32 y] w fun e w' => e = .returned (.bool true) ∧ Below w.heap.size w w' := by
  have hB := byts_row h
  have hm := Nat.le_trans hB.room hB.most
  generalize (zs.take n).map Int.toNat = l at *
  obtain ⟨p, rfl, hp⟩ := u16_bd hx
  obtain ⟨v, rfl, hv⟩ := u32_bd hy
  clear h hx hy
  have HB := Lib.hid hB; clear hB
  by_cases h1 : n < 4
  · go_enter Try.func5, Try.ntmps5
    go_wp2_with (go_at_call 9; refine (alive_any _).mono ?_; rintro e w1 ⟨rfl, hb⟩)
    go_ret
    exact ⟨rfl, hb⟩
  by_cases h2 : 1000 < n
  · go_enter Try.func5, Try.ntmps5
    go_wp2_with (go_at_call 9; refine (alive_any _).mono ?_; rintro e w1 ⟨rfl, hb⟩)
    go_ret
    exact ⟨rfl, hb⟩
  by_cases h3 : v = 0
  · subst h3
    go_enter Try.func5, Try.ntmps5
    go_wp2_with (go_at_call 9; refine (alive_any _).mono ?_; rintro e w1 ⟨rfl, hb⟩)
    go_ret
    exact ⟨rfl, hb⟩
  · have hv0 : ((v : Int) == 0) = false := by rw [beq_eq_false_iff_ne]; omega
    obtain ⟨v1, w1, hr1, ho1, hb1⟩ := run_copy_byts a n cap l HB.out (by omega)
    obtain ⟨g, c1, rfl, hg⟩ := ho1.form (by omega)
    have Ho1 := Lib.hid ho1; clear ho1
    have H3 := Lib.hid h3; clear h3
    have hd1 : decide ((n : Int) < 4) = false := by rw [decide_eq_false_iff_not]; omega
    have hd2 : decide (1000 < (n : Int)) = false := by rw [decide_eq_false_iff_not]; omega
    obtain ⟨i, hi, hi4⟩ : ∃ i : Nat, (p : Int) % ((n : Int) - 3) = (i : Int) ∧ i + 4 ≤ n := by
      have e1 := Int.emod_nonneg (p : Int) (show ((n : Int) - 3) ≠ 0 by omega)
      have e2 := Int.emod_lt_of_pos (p : Int) (show 0 < ((n : Int) - 3) by omega)
      exact ⟨((p : Int) % ((n : Int) - 3)).toNat, by omega, by omega⟩
    have Hi := Lib.hid hi; clear hi
    go_enter Try.func5, Try.ntmps5
    go_wp2_with (at_builtin; refine wpList_append_hr _ _ 22 rfl rfl _ _ rfl rfl _ _ hr1 ?_)
    clear hr1
    rw [Hi.out]
    have hgs := hb1.size
    go_loopw [9, 32] (fun _ j wr => ∃ k : Nat, k ≤ 4 ∧ j = .int .i64 k ∧ Below w.heap.size w wr ∧ Hid (wr.ownsRow w.heap.size 5 1 (.slice (some ⟨g, 0, none⟩) n c1) n (u8s (mix l i v k)))) (fun _ j _ => 4 - (intOf j).toNat)
    case atStart => exact ⟨0, by omega, rfl, hb1, Ho1.out⟩
    case round =>
      obtain ⟨k, hk, rfl, hb, ho⟩ := hrel
      by_cases hk4 : k < 4
      · have hcell := ho.out.cellAt (i + k) (by omega)
        have hfr := ho.out.frozenAt (i + k)
        rw [u8s_get _ _ (by rw [mix_len, HB.out.len]; omega)] at hcell
        have hq : nth (mix l i v k) (i + k) < 256 := nth_lt (mix_lt l i v k HB.out.lt) (by omega) _
        generalize hqq : nth (mix l i v k) (i + k) = q at *
        have Hqq := Lib.hid hqq; clear hqq
        go_wp2
        go_region
        go_wp2
        rw [go_chb q v k hq]
        go_roundw
        case rel =>
          have hs := ho.out.stored (i + k) (.int .u8 ((q ^^^ chb v k : Nat) : Int))
          refine ⟨k + 1, by omega, by go_num, (hb.setCell (p := ⟨g, i + k, none⟩) hg.1 _).drew, ?_⟩
          have h1 := hs.1.drew
          rw [u8s_set] at h1
          rw [mix, Hqq.out]
          exact h1
        case measure => simp [intOf]; omega
      · obtain rfl : k = 4 := by omega
        have Hne := Lib.hid (sum_burst l i v (by rw [HB.out.len]; exact hi4) hv H3.out)
        have HBr := Lib.hid (HB.out.below hb)
        obtain ⟨a2, c2, e2, hB2⟩ := byts_own ho.out (mix_lt l i v 4 HB.out.lt)
        cases e2
        have HB2 := Lib.hid hB2; clear hB2
        generalize hmm : mix l i v 4 = l2 at *
        clear hmm Ho1 hb1
        go_wp2_with fail
        refine (alive_any _).mono ?_
        rintro e w3 ⟨rfl, hb3⟩
        have HBa := Lib.hid (HBr.out.below hb3)
        have HBb := Lib.hid (HB2.out.below hb3)
        have hw3 := hb.trans (hb3.mono hb.size)
        clear hb3
        go_wp2_with fail
        refine (sum_any _ _ _ l _ HBa.out).mono ?_
        rintro e w4 ⟨rfl, hb4⟩
        have HBc := Lib.hid (HBb.out.below hb4)
        have hw4 := hw3.trans (hb4.mono hw3.size)
        clear hb4
        go_wp2_with fail
        refine (sum_any _ _ _ l2 _ HBc.out).mono ?_
        rintro e w5 ⟨rfl, hb5⟩
        have hw5 := hw4.trans (hb5.mono hw4.size)
        have hneq : (((sum l : Nat) : Int) != ((sum l2 : Nat) : Int)) = true := by rw [bne_iff_ne]; have := Hne.out; omega
        generalize sum l = s1 at *
        generalize sum l2 = s2 at *
        go_wp2_with fail
        go_ret
        exact ⟨rfl, hw5⟩

end Go.Proofs.Yteonpcckifkafaa
