/- Walks and laws, merged: part 41. -/
import Derived.Test.YtkkdlgcfcbaibaaGreatDoorPt24
import Derived.Test.YtkkdlgcfcbaibaaGreatDoorPt40
import Derived.Test.YtkkdlgcfcbaibaaGreatDoorPt26
section
namespace Go.Proofs.YtkkdlgcfcbaibaaGreatDoor
open Go.RowKit
set_option linter.unusedVariables false

/-- Is the n-th rule broken? -/
def brk (k : Kno) (i : Nat) (B : List Iv) (n : Nat) : Bool := match n with
  | 0 => decide ((nthF k i).1 = [] ∨ (nthF k i).2 = [])
  | 1 => !canVB (nthF k i).2
  | 2 => !disjL (nthF k i).1 B
  | _ => decide (0 < i ∧ cmpV (nthF k (i - 1)).2 (nthF k i).2 ≠ -1)
def codeR (n : Nat) : Nat := match n with | 0 => 9 | 1 => 10 | 2 => 10 | _ => 3

/-- The items of the first fragments. -/
def befK (k : Kno) (d : Nat) : List Iv := (k.take d).foldl (fun l f => opL gOr l f.1) []

theorem bef_fold : ∀ {k : Kno} {l : List Iv}, (∀ f ∈ k, Lt64 f.1) → Good l → Lt64 l →
    Good (k.foldl (fun l f => opL gOr l f.1) l) ∧ Lt64 (k.foldl (fun l f => opL gOr l f.1) l) ∧ (∀ x, mem (k.foldl (fun l f => opL gOr l f.1) l) x = (mem l x || k.any fun f => mem f.1 x)) ∧
    (k.foldl (fun l f => opL gOr l f.1) l).length ≤ l.length + isum k
  | [], l, _, h1, h2 => ⟨h1, h2, fun x => by simp, by simp [isum]⟩
  | f :: k, l, h, h1, h2 => by
    obtain ⟨g1, g2, g3⟩ := opL_good (g := gOr) h2 (h f List.mem_cons_self) rfl
    obtain ⟨a1, a2, a3, a4⟩ := bef_fold (k := k) (l := opL gOr l f.1) (fun g hg => h g (List.mem_cons_of_mem _ hg)) g1 g3
    have hl := opL_len_or h2 (h f List.mem_cons_self)
    refine ⟨a1, a2, fun x => ?_, ?_⟩
    · rw [List.foldl_cons, a3, g2, List.any_cons]; unfold gOr; rw [Bool.or_assoc]
    · rw [List.foldl_cons, isum]; omega

theorem befK_ok {k : Kno} (h : ∀ f ∈ k, Lt64 f.1) (d : Nat) : Good (befK k d) ∧ Lt64 (befK k d) ∧ (∀ x, mem (befK k d) x = (k.take d).any fun f => mem f.1 x) ∧ (befK k d).length ≤ isum k := by
  obtain ⟨a1, a2, a3, a4⟩ := bef_fold (k := k.take d) (l := []) (fun f hf => h f (List.mem_of_mem_take hf)) trivial (fun s hs => by cases hs)
  refine ⟨a1, a2, fun x => ?_, ?_⟩
  · show mem (List.foldl _ _ _) x = _; rw [a3]; simp [mem_nil]
  · have := isum_take k d; have e : (befK k d).length = ((k.take d).foldl (fun l f => opL gOr l f.1) []).length := rfl
    rw [e]; simp only [List.length_nil] at a4; omega

theorem befK_succ {k : Kno} {d : Nat} (h : d < k.length) : befK k (d + 1) = opL gOr (befK k d) (nthF k d).1 := by
  unfold befK
  rw [List.take_succ_eq_append_getElem h, List.foldl_append, nthF_get h]
  rfl

theorem disj_bef {k : Kno} (h : ∀ f ∈ k, Lt64 f.1) {i : Nat} (hi : i < k.length) : (!disjL (nthF k i).1 (befK k i)) = (List.range i).any fun j => decide (opL gAnd (nthF k i).1 (nthF k j).1 ≠ []) := by
  obtain ⟨b1, b2, b3, -⟩ := befK_ok h i
  have hli := h _ (nthF_mem hi)
  have hiff : ∀ {a b : List Iv}, Lt64 a → Lt64 b → (opL gAnd a b ≠ [] ↔ ∃ x, mem a x = true ∧ mem b x = true) := by
    intro a b ha hb
    obtain ⟨g1, g2, g3⟩ := opL_good (g := gAnd) ha hb rfl
    constructor
    · intro hne
      obtain ⟨x, hx⟩ := good_first g1 hne
      rw [g2] at hx
      unfold gAnd at hx
      rw [Bool.and_eq_true] at hx
      exact ⟨x, hx⟩
    · rintro ⟨x, h1, h2⟩ he
      have := g2 x
      rw [he, mem_nil, h1, h2] at this
      cases this
  rw [Bool.eq_iff_iff]
  unfold disjL
  rw [Bool.not_eq_true', decide_eq_false_iff_not, List.any_eq_true]
  constructor
  · intro hne
    obtain ⟨x, h1, h2⟩ := (hiff hli b2).1 hne
    rw [b3] at h2
    obtain ⟨f, hf, hx⟩ := List.any_eq_true.1 h2
    obtain ⟨j, hj, rfl⟩ := List.getElem_of_mem hf
    have hji : j < i := by simp at hj; omega
    have hjk : j < k.length := by omega
    refine ⟨j, by simpa using hji, ?_⟩
    rw [decide_eq_true_iff, hiff hli (h _ (nthF_mem hjk))]
    refine ⟨x, h1, ?_⟩
    rw [nthF_get hjk]
    simpa using hx
  · rintro ⟨j, hj, h2⟩
    have hji : j < i := by simpa using hj
    have hjk : j < k.length := by omega
    rw [decide_eq_true_iff, hiff hli (h _ (nthF_mem hjk))] at h2
    obtain ⟨x, h1, h3⟩ := h2
    refine (hiff hli b2).2 ⟨x, h1, ?_⟩
    rw [b3, List.any_eq_true]
    refine ⟨nthF k j, ?_, h3⟩
    rw [nthF_get hjk]
    exact List.mem_take_iff_getElem.2 ⟨j, by omega, rfl⟩

theorem wrongK_brk {k : Kno} (h : ∀ f ∈ k, Lt64 f.1) {i : Nat} (hi : i < k.length) :
    (∀ n, n < 4 → (∀ j, j < n → brk k i (befK k i) j = false) → brk k i (befK k i) n = true → wrongK k i = codeR n) ∧
    ((∀ j, j < 4 → brk k i (befK k i) j = false) → wrongK k i = 0) := by
  have h2 := disj_bef h hi
  have e0 : brk k i (befK k i) 0 = decide ((nthF k i).1 = [] ∨ (nthF k i).2 = []) := rfl
  have e1 : brk k i (befK k i) 1 = !canVB (nthF k i).2 := rfl
  have e2 : brk k i (befK k i) 2 = !disjL (nthF k i).1 (befK k i) := rfl
  have e3 : brk k i (befK k i) 3 = decide (0 < i ∧ cmpV (nthF k (i - 1)).2 (nthF k i).2 ≠ -1) := rfl
  rw [h2] at e2
  constructor
  · intro n hn hj ht
    unfold wrongK
    rcases n with _ | _ | _ | _ | n
    · rw [e0, decide_eq_true_iff] at ht
      rw [if_pos ht]; rfl
    · have a0 := hj 0 (by omega)
      rw [e0, decide_eq_false_iff_not] at a0
      rw [show brk k i (befK k i) (0 + 1) = _ from e1] at ht
      rw [if_neg a0, if_pos (by simpa using ht)]; rfl
    · have a0 := hj 0 (by omega)
      have a1 := hj 1 (by omega)
      rw [e0, decide_eq_false_iff_not] at a0
      rw [e1] at a1
      rw [show brk k i (befK k i) (0 + 1 + 1) = _ from e2] at ht
      rw [if_neg a0, if_neg (by simp at a1; simp [a1]), if_pos ht]; rfl
    · have a0 := hj 0 (by omega)
      have a1 := hj 1 (by omega)
      have a2 := hj 2 (by omega)
      rw [e0, decide_eq_false_iff_not] at a0
      rw [e1] at a1
      rw [e2] at a2
      rw [show brk k i (befK k i) (0 + 1 + 1 + 1) = _ from e3, decide_eq_true_iff] at ht
      rw [if_neg a0, if_neg (by simp at a1; simp [a1]), if_neg (by rw [a2]; simp), if_pos ht]; rfl
    · omega
  · intro hj
    have a0 := hj 0 (by omega)
    have a1 := hj 1 (by omega)
    have a2 := hj 2 (by omega)
    have a3 := hj 3 (by omega)
    rw [e0, decide_eq_false_iff_not] at a0
    rw [e1] at a1
    rw [e2] at a2
    rw [e3, decide_eq_false_iff_not] at a3
    unfold wrongK
    rw [if_neg a0, if_neg (by simp at a1; simp [a1]), if_neg (by rw [a2]; simp), if_neg a3]

/-- The rules' functions. -/
def ruleF (n : Nat) : FuncId := match n with | 0 => 112 | 1 => 113 | 2 => 115 | _ => 117
def ruleV (f : FuncId) : Value := .func (.func f) #[] #[]
def rulesV : Value := .agg #[ruleV 112, ruleV 113, ruleV 115, ruleV 117]

attribute [local go_sem] run_store_fn
theorem rules_any (w : World) : Calls Tryz.prog 70 #[] w fun x w' => x = .returned rulesV ∧ Below w.heap.size w w' := by
  go_enter Tryz.func70, Tryz.ntmps70
  go_wp2
  refine bodyPost_ret (v := rulesV) (by simp [results, Tryz.results70, go_sem]; rfl) rfl ?_
  exact ⟨rfl, (Below.refl _ _).alloc (Nat.le_refl _) _⟩

end Go.Proofs.YtkkdlgcfcbaibaaGreatDoor
end

section
namespace Go.Proofs.YtkkdlgcfcbaibaaGreatDoor
open Go.RowKit
set_option linter.unusedVariables false

theorem rule1_any (a b : Option Addr) (n cap i bn bc : Nat) (k : Kno) (B : List Iv) (w : World) (hE : Frags w a n cap k) (hi : i < n) :
    Calls Tryz.prog 112 #[.slice a n cap, .int .i64 i, .slice b bn bc] w fun x w' => x = .returned (.bool (brk k i B 0)) ∧ Below w.heap.size w w' := by
  have hm : n ≤ 9223372036854775807 := Nat.le_trans hE.room hE.most
  obtain ⟨bb, oo, rfl⟩ := hE.some (by omega)
  obtain ⟨x, m, c, y, m', c', hq⟩ := hE.fix hi
  have HIl := Lib.hid (hq w (Below.refl _ _)).2.1.len
  have HVl := Lib.hid (hq w (Below.refl _ _)).2.2.2.len
  have h0 : (0 : Int) ≤ i := by omega
  have h04 : (i : Int) < (n : Int) := by omega
  have q1 := (hq w (Below.refl _ _)).1
  have q2 := (hq w (Below.refl _ _)).2.2.1
  have Hb0 := Lib.hid (show brk k i B 0 = decide ((nthF k i).1 = [] ∨ (nthF k i).2 = []) from rfl)
  clear hE hq
  by_cases hm0 : m = 0
  · have Hr := Lib.hid (show brk k i B 0 = true from by
      rw [Hb0.out, decide_eq_true_iff]
      exact .inl (List.length_eq_zero_iff.1 (HIl.out.trans hm0)))
    have hz : ((m : Int) == 0) = true := by rw [hm0]; rfl
    clear hm0 Hb0
    go_enter Tryz.func112, Tryz.ntmps112
    go_wp2
    go_ret
    exact ⟨by rw [Hr.out]; try rfl, Below.refl _ _⟩
  · have hz : ((m : Int) == 0) = false := by rw [beq_eq_false_iff_ne]; omega
    by_cases hm1 : m' = 0
    · have Hr := Lib.hid (show brk k i B 0 = true from by
        rw [Hb0.out, decide_eq_true_iff]
        exact .inr (List.length_eq_zero_iff.1 (HVl.out.trans hm1)))
      have hz2 : ((m' : Int) == 0) = true := by rw [hm1]; rfl
      clear hm0 hm1 Hb0
      go_enter Tryz.func112, Tryz.ntmps112
      go_wp2
      go_ret
      exact ⟨by rw [Hr.out]; try rfl, Below.refl _ _⟩
    · have Hr := Lib.hid (show brk k i B 0 = false from by
        rw [Hb0.out, decide_eq_false_iff_not]
        rintro (h | h)
        · exact hm0 (by rw [← HIl.out, h]; rfl)
        · exact hm1 (by rw [← HVl.out, h]; rfl))
      have hz2 : ((m' : Int) == 0) = false := by rw [beq_eq_false_iff_ne]; omega
      clear hm0 hm1 Hb0
      go_enter Tryz.func112, Tryz.ntmps112
      go_wp2
      go_ret
      exact ⟨by rw [Hr.out]; try rfl, Below.refl _ _⟩

theorem rule2_any (a b : Option Addr) (n cap i bn bc : Nat) (k : Kno) (B : List Iv) (w : World) (hE : Frags w a n cap k) (hi : i < n) (hD : Door w) (hs : ∀ f ∈ k, ∀ e ∈ f.2, e.2.2.length ≤ 1000000) :
    Calls Tryz.prog 113 #[.slice a n cap, .int .i64 i, .slice b bn bc] w fun x w' => x = .returned (.bool (brk k i B 1)) ∧ Below w.heap.size w w' := by
  have hm : n ≤ 9223372036854775807 := Nat.le_trans hE.room hE.most
  have hik : i < k.length := by rw [hE.len]; exact hi
  obtain ⟨bb, oo, rfl⟩ := hE.some (by omega)
  obtain ⟨x, m, c, y, m', c', hq⟩ := hE.fix hi
  have h0 : (0 : Int) ≤ i := by omega
  have h04 : (i : Int) < (n : Int) := by omega
  have q1 := (hq w (Below.refl _ _)).1
  have q2 := (hq w (Below.refl _ _)).2.2.1
  have hC := Lib.hid (vecCanonical_any y m' c' (nthF k i).2 w (hq w (Below.refl _ _)).2.2.2 hD (hs _ (nthF_mem hik)))
  have Hr := Lib.hid (show brk k i B 1 = !canVB (nthF k i).2 from rfl)
  clear hE hq hs
  generalize canVB (nthF k i).2 = z at *
  go_enter Tryz.func113, Tryz.ntmps113
  go_wp2_with fail
  refine hC.out.mono ?_
  rintro e w1 ⟨rfl, hb1⟩
  have Hb1 := Lib.hid hb1; clear hb1
  go_wp2
  go_ret
  exact ⟨by rw [Hr.out]; try rfl, Hb1.out⟩

theorem rule3_any (a b : Option Addr) (n cap i bn bc : Nat) (k : Kno) (B : List Iv) (w : World) (hE : Frags w a n cap k) (hi : i < n) (hB : Ivs w b bn bc B) (gB : Good B) (hG : ∀ f ∈ k, Good f.1) :
    Calls Tryz.prog 115 #[.slice a n cap, .int .i64 i, .slice b bn bc] w fun x w' => x = .returned (.bool (brk k i B 2)) ∧ Below w.heap.size w w' := by
  have hm : n ≤ 9223372036854775807 := Nat.le_trans hE.room hE.most
  have hik : i < k.length := by rw [hE.len]; exact hi
  obtain ⟨bb, oo, rfl⟩ := hE.some (by omega)
  obtain ⟨x, m, c, y, m', c', hq⟩ := hE.fix hi
  have h0 : (0 : Int) ≤ i := by omega
  have h04 : (i : Int) < (n : Int) := by omega
  have q1 := (hq w (Below.refl _ _)).1
  have q2 := (hq w (Below.refl _ _)).2.2.1
  have hC := Lib.hid (disjoint_any x b m c bn bc (nthF k i).1 B w (hq w (Below.refl _ _)).2.1 hB (hG _ (nthF_mem hik)) gB)
  have Hr := Lib.hid (show brk k i B 2 = !disjL (nthF k i).1 B from rfl)
  clear hE hq hB gB hG
  generalize disjL (nthF k i).1 B = z at *
  go_enter Tryz.func115, Tryz.ntmps115
  go_wp2_with fail
  refine hC.out.mono ?_
  rintro e w1 ⟨rfl, hb1⟩
  have Hb1 := Lib.hid hb1; clear hb1
  go_wp2
  go_ret
  exact ⟨by rw [Hr.out]; try rfl, Hb1.out⟩

set_option maxRecDepth 100000 in
set_option maxHeartbeats 4000000 in
theorem rule4_any (a b : Option Addr) (n cap i bn bc : Nat) (k : Kno) (B : List Iv) (w : World) (hE : Frags w a n cap k) (hi : i < n) (hv : ∀ f ∈ k, VecFits f.2) :
    Calls Tryz.prog 117 #[.slice a n cap, .int .i64 i, .slice b bn bc] w fun x w' => x = .returned (.bool (brk k i B 3)) ∧ Below w.heap.size w w' := by
  have hm : n ≤ 9223372036854775807 := Nat.le_trans hE.room hE.most
  have hik : i < k.length := by rw [hE.len]; exact hi
  obtain ⟨bb, oo, rfl⟩ := hE.some (by omega)
  obtain ⟨x, m, c, y, m', c', hq⟩ := hE.fix hi
  have h0 : (0 : Int) ≤ i := by omega
  have h04 : (i : Int) < (n : Int) := by omega
  have Hq := Lib.hid hq
  have Hwr := Lib.hid (show brk k i B 3 = decide (0 < i ∧ cmpV (nthF k (i - 1)).2 (nthF k i).2 ≠ -1) from rfl)
  by_cases hd0 : 0 < i
  · have hdn : i - 1 < n := by omega
    have hdk : i - 1 < k.length := by rw [hE.len]; exact hdn
    obtain ⟨x1, m1, c1, y1, m1', c1', hq2⟩ := hE.fix hdn
    have Hq1 := Lib.hid (fun w' (h : Below w.heap.size w w') => (hq w' h).2.2.1)
    have Hq2 := Lib.hid (fun w' (h : Below w.heap.size w w') => (hq2 w' h).2.2.1)
    have hC := Lib.hid (fun w' (h : Below w.heap.size w w') => vecCompare_any y1 y m1' c1' m' c' (nthF k (i - 1)).2 (nthF k i).2 w' (hq2 w' h).2.2.2 (hq w' h).2.2.2 (hv _ (nthF_mem hdk)) (hv _ (nthF_mem hik)))
    have hcr := cmpV_range (nthF k (i - 1)).2 (nthF k i).2
    have hg : decide (0 < (i : Int)) = true := by rw [decide_eq_true_iff]; omega
    have hsub : IntKind.i64.wrap ((i : Int) - 1) = ((i - 1 : Nat) : Int) := by rw [IntKind.wrap_i64]; omega
    have h01 : (0 : Int) ≤ ((i - 1 : Nat) : Int) := by omega
    have h03 : ((i - 1 : Nat) : Int) < (n : Int) := by omega
    clear hq hq2 hE hv
    generalize cmpV (nthF k (i - 1)).2 (nthF k i).2 = z at *
    generalize i - 1 = d1 at *
    obtain ⟨bz, hbz⟩ : ∃ bz : Bool, bz = decide (0 ≤ z) := ⟨_, rfl⟩
    have Hbz := Lib.hid hbz
    clear hbz
    go_enter Tryz.func117, Tryz.ntmps117
    go_wp2_with fail
    go_cut [6] (fun t wc => t = .bool bz ∧ Hid (Below w.heap.size w wc))
    case first =>
      refine wp_region_below (by kernel_rfl) (by kernel_rfl) ?_
      repeat (go_big_quiet_step ((intro hw; first
        | rfl
        | (have q0 := Hq1.out _ hw
           have q3 := Hq2.out _ hw
           first
           | (go_at_call 118; exact keep_below hw (hC.out _ hw))
           | (go_simp
              first | rfl | exact ⟨rfl, hw⟩ | (trace_state; fail))))))
      refine wpQuiet_nil ?_
      intro w3 hb3
      go_wp2
      go_meet
      exact ⟨by rw [Hbz.out]; try rfl, hb3⟩
    case rest =>
      obtain ⟨rfl, hb2⟩ := hcut
      have Hb2 := Lib.hid hb2.out
      have Hr := Lib.hid (show brk k i B 3 = bz from by
        rw [Hwr.out, Hbz.out]
        rw [Bool.eq_iff_iff, decide_eq_true_iff, decide_eq_true_iff]
        rcases hcr with h | h | h <;> rw [h] <;> simp [hd0])
      clear hb2 hcr Hwr Hbz
      go_wp2
      go_ret
      exact ⟨by rw [Hr.out]; try rfl, Hb2.out⟩
  · have hg : decide (0 < (i : Int)) = false := by rw [decide_eq_false_iff_not]; omega
    have Hr := Lib.hid (show brk k i B 3 = false from by rw [Hwr.out, decide_eq_false_iff_not]; exact fun h => hd0 h.1)
    have hgn : decide (0 < i) = false := by rw [decide_eq_false_iff_not]; exact hd0
    clear hd0 hE hv hq Hq Hwr
    go_enter Tryz.func117, Tryz.ntmps117
    go_wp2
    go_quiet (fail)
    go_wp2
    go_ret
    exact ⟨by rw [Hr.out]; try rfl, by first | exact Below.refl _ _ | exact below_drewN' (Below.refl _ _) _⟩

theorem rule_any (q : Nat) (a b : Option Addr) (n cap i bn bc : Nat) (k : Kno) (B : List Iv) (w : World) (hE : Frags w a n cap k) (hi : i < n) (hB : Ivs w b bn bc B) (gB : Good B) (hG : ∀ f ∈ k, Good f.1) (hD : Door w)
    (hs : ∀ f ∈ k, ∀ e ∈ f.2, e.2.2.length ≤ 1000000) (hv : ∀ f ∈ k, VecFits f.2) :
    Calls Tryz.prog (ruleF q) #[.slice a n cap, .int .i64 i, .slice b bn bc] w fun x w' => x = .returned (.bool (brk k i B q)) ∧ Below w.heap.size w w' := by
  match q with
  | 0 => exact rule1_any a b n cap i bn bc k B w hE hi
  | 1 => exact rule2_any a b n cap i bn bc k B w hE hi hD hs
  | 2 => exact rule3_any a b n cap i bn bc k B w hE hi hB gB hG
  | q + 3 => exact rule4_any a b n cap i bn bc k B w hE hi hv

end Go.Proofs.YtkkdlgcfcbaibaaGreatDoor
end
