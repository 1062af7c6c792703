/-
  kenningref21.Split: one contract.
-/
import Derived.Test.YtejcakbkldecmaaDoorFrmRefSplit2
namespace Go.Proofs.YtejcakbkldecmaaDoor
open Go.RowKit
set_option linter.unusedVariables false

theorem headRes_code {l : List Nat} {p : Nat} {most : Int} {s k : Nat} {c : Int × Option Int} (h : headRes l p most = (s, k, some c)) : c.1 ≠ 0 := by
  unfold headRes at h
  split at h
  · rename_i e q hb
    have : e ≠ 0 := by
      obtain ⟨i, -, hi⟩ := List.exists_of_findSome?_eq_some hb
      unfold headAt at hi
      split at hi
      · cases hi; omega
      · split at hi
        · cases hi
        · cases hi
          split <;> omega
    cases h
    show (e : Int) ≠ 0
    omega
  · split at h
    · split at h
      · cases h; exact (by decide : (7 : Int) ≠ 0)
      · cases h
    · cases h; exact (by decide : (6 : Int) ≠ 0)
    · cases h; exact (by decide : (5 : Int) ≠ 0)

theorem refsplit_any (a : Option Addr) (n cap p : Nat) (most : Int) (l : List Nat) (w : World) (hB : Byts w a n cap l) (hp : p ≤ n) (hn : n ≤ 100000) (hm0 : -9223372036854775808 ≤ most) (hm1 : most ≤ 9223372036854775807) :
    Calls Tryd.prog 16 #[.slice a n cap, .int .i64 p, .int .i64 most] w fun e w' =>
      (∃ v, e = .returned (.tuple #[v, .int .i64 ((splitRes l p most).2.1 : Nat), .int .i64 (errCode (splitRes l p most).2.2), .int .i64 (errAt (splitRes l p most).2.2)])
        ∧ w'.ownsRow w.heap.size 5 1 v (splitRes l p most).1.length (u8s (splitRes l p most).1)) ∧ Below w.heap.size w w' := by
  have hl := hB.len
  rcases hh : headRes l p most with ⟨s, k, c⟩
  cases c with
  | some c =>
    refine (refsplit_err a n cap p most l w s k c hh (headRes_code hh) hB hp hn hm0 hm1).mono ?_
    rintro e w' ⟨rfl, hb⟩
    rw [splitRes_bad hh]
    exact ⟨⟨_, rfl, World.ownsRow_nil _ _ _ _⟩, hb⟩
  | none =>
    obtain ⟨h1, h2, h3⟩ := headRes_none (by omega) hm1 hh
    obtain ⟨b, o, rfl, -⟩ := hB.cells (by omega)
    by_cases hb : n - s < k ∨ n - s - k < 4
    · refine (refsplit_short _ n cap p most l w s k hh (by omega) h3 hb hB hp hn hm0 hm1).mono ?_
      rintro e w' ⟨rfl, hb'⟩
      rw [splitRes_short hh (by rw [hl]; exact hb)]
      exact ⟨⟨_, rfl, World.ownsRow_nil _ _ _ _⟩, hb'⟩
    · by_cases hs : sumBytes (sum ((l.drop s).take k)) = (l.drop (s + k)).take 4
      · refine (refsplit_full b o n cap p most l w s k hh (by omega) hB hp hn hm0 hm1 true (by simp [hs]) _ _ _ rfl rfl rfl).mono ?_
        rintro e w' ⟨⟨v, rfl, ho, -⟩, hb'⟩
        rw [splitRes_good hh (by rw [hl]; exact hb) hs]
        refine ⟨⟨v, rfl, ?_⟩, hb'⟩
        have := ho rfl
        show w'.ownsRow _ _ _ v ((l.drop s).take k).length _
        rw [show ((l.drop s).take k).length = k by rw [List.length_take, List.length_drop]; omega]
        exact this
      · refine (refsplit_full b o n cap p most l w s k hh (by omega) hB hp hn hm0 hm1 false (by simp [hs]) _ _ _ rfl rfl rfl).mono ?_
        rintro e w' ⟨⟨v, rfl, -, hv⟩, hb'⟩
        rw [splitRes_sum hh (by rw [hl]; exact hb) hs, hv rfl]
        exact ⟨⟨_, rfl, World.ownsRow_nil _ _ _ _⟩, hb'⟩

end Go.Proofs.YtejcakbkldecmaaDoor
