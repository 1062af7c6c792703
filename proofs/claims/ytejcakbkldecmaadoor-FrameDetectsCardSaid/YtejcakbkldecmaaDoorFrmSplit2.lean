/-
  frame.Split: one contract.
-/
import Derived.Test.YtejcakbkldecmaaDoorFrmSplit
namespace Go.Proofs.YtejcakbkldecmaaDoor
open Go.RowKit
set_option linter.unusedVariables false

theorem splitRes_bad {l : List Nat} {p : Nat} {most : Int} {s k : Nat} {c : Int × Option Int} (h : headRes l p most = (s, k, some c)) : splitRes l p most = ([], 0, some c) := by
  unfold splitRes; rw [h]
theorem splitRes_short {l : List Nat} {p : Nat} {most : Int} {s k : Nat} (h : headRes l p most = (s, k, none)) (hb : l.length - s < k ∨ l.length - s - k < 4) : splitRes l p most = ([], 0, some (5, some (p : Int))) := by
  unfold splitRes; rw [h]; exact if_pos hb
theorem splitRes_sum {l : List Nat} {p : Nat} {most : Int} {s k : Nat} (h : headRes l p most = (s, k, none)) (hb : ¬ (l.length - s < k ∨ l.length - s - k < 4)) (hs : ¬ sumBytes (sum ((l.drop s).take k)) = (l.drop (s + k)).take 4) : splitRes l p most = ([], 0, some (14, some ((s + k : Nat) : Int))) := by
  unfold splitRes; rw [h]; simp only [if_neg hb, if_neg hs]
theorem splitRes_good {l : List Nat} {p : Nat} {most : Int} {s k : Nat} (h : headRes l p most = (s, k, none)) (hb : ¬ (l.length - s < k ∨ l.length - s - k < 4)) (hs : sumBytes (sum ((l.drop s).take k)) = (l.drop (s + k)).take 4) : splitRes l p most = ((l.drop s).take k, s + k + 4, none) := by
  unfold splitRes; rw [h]; simp only [if_neg hb, if_pos hs]

theorem split_any (a : Option Addr) (n cap p : Nat) (most : Int) (l : List Nat) (w : World) (hD : Door w) (hB : Byts w a n cap l) (hp : p ≤ n) (hn : n ≤ 100000) (hm0 : -9223372036854775808 ≤ most) (hm1 : most ≤ 9223372036854775807) :
    Calls Tryd.prog 11 #[.slice a n cap, .int .i64 p, .int .i64 most] w fun e w' =>
      (∃ v, e = .returned (.tuple #[v, .int .i64 ((splitRes l p most).2.1 : Nat), errVal (splitRes l p most).2.2])
        ∧ w'.ownsRow w.heap.size 5 1 v (splitRes l p most).1.length (u8s (splitRes l p most).1)) ∧ Below w.heap.size w w' := by
  have hl := hB.len
  rcases hh : headRes l p most with ⟨s, k, c⟩
  cases c with
  | some c =>
    refine (split_err a n cap p most l w s k c hh hD hB hp hn hm0 hm1).mono ?_
    rintro e w' ⟨rfl, hb⟩
    rw [splitRes_bad hh]
    exact ⟨⟨_, rfl, World.ownsRow_nil _ _ _ _⟩, hb⟩
  | none =>
    obtain ⟨h1, h2, h3⟩ := headRes_none (by omega) hm1 hh
    obtain ⟨b, o, rfl, -⟩ := hB.cells (by omega)
    by_cases hb : n - s < k ∨ n - s - k < 4
    · refine (split_short b o n cap p most l w s k hh (by omega) (by omega) h3 hb hD hB hp hn hm0 hm1).mono ?_
      rintro e w' ⟨rfl, hb'⟩
      rw [splitRes_short hh (by rw [hl]; exact hb)]
      exact ⟨⟨_, rfl, World.ownsRow_nil _ _ _ _⟩, hb'⟩
    · by_cases hs : sumBytes (sum ((l.drop s).take k)) = (l.drop (s + k)).take 4
      · refine (split_full b o n cap p most l w s k hh (by omega) hD hB hp hn hm0 hm1 true (by simp [hs])).mono ?_
        rintro e w' ⟨⟨v, rfl, ho, -⟩, hb'⟩
        rw [splitRes_good hh (by rw [hl]; exact hb) hs]
        refine ⟨⟨v, rfl, ?_⟩, hb'⟩
        have := ho rfl
        show w'.ownsRow _ _ _ v ((l.drop s).take k).length _
        rw [show ((l.drop s).take k).length = k by rw [List.length_take, List.length_drop]; omega]
        exact this
      · refine (split_full b o n cap p most l w s k hh (by omega) hD hB hp hn hm0 hm1 false (by simp [hs])).mono ?_
        rintro e w' ⟨⟨v, rfl, -, hv⟩, hb'⟩
        rw [splitRes_sum hh (by rw [hl]; exact hb) hs, hv rfl]
        exact ⟨⟨_, rfl, World.ownsRow_nil _ _ _ _⟩, hb'⟩

end Go.Proofs.YtejcakbkldecmaaDoor
