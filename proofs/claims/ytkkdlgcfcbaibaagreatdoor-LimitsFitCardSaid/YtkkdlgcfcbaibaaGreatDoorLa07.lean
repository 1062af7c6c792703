/- Walks and laws, joined: La07. -/
import Derived.RangeFuncNested
import Derived.RangeFuncBound
import Derived.RangeFuncCalls
import Derived.RangeFuncLeaves
import Derived.Shelf.Abstract
import Derived.WalkKit
import Derived.Test.YtkkdlgcfcbaibaaGreatDoorLa02
import Derived.Test.YtkkdlgcfcbaibaaGreatDoorLa06
set_option linter.unusedVariables false
namespace Go.Proofs.YtkkdlgcfcbaibaaGreatDoor
section
open Go.RowKit
theorem next_lt (x : Nat) (hx : x < 18446744073709551615) (w : World) : Calls Tryz.prog 189 #[.int .u64 x] w fun e w' => e = .returned (.tuple #[.int .u64 ((x + 1 : Nat) : Int), .bool true]) ∧ Below w.heap.size w w' := by
 have hw : IntKind.u64.wrap ((x : Int) + 1) = (x : Int) + 1 := by rw [IntKind.wrap_u64]; omega
 have hne : ((x : Int) + 1 != 0) = true := by rw [bne_iff_ne]; omega
 go_enter Tryz.func189, Tryz.ntmps189
 go_wp2
 all_goals go_ret2
 all_goals exact ⟨by simp, by first | exact Below.refl _ _ | exact below_drewN' (Below.refl _ _) _⟩
theorem next_max (w : World) : Calls Tryz.prog 189 #[.int .u64 18446744073709551615] w fun e w' => e = .returned (.tuple #[.int .u64 0, .bool false]) ∧ Below w.heap.size w w' := by
 go_enter Tryz.func189, Tryz.ntmps189
 go_wp2
 all_goals go_ret2
 all_goals exact ⟨by simp [IntKind.wrap_u64], by first | exact Below.refl _ _ | exact below_drewN' (Below.refl _ _) _⟩
def nextV (o : Option Nat) : Value := .tuple #[.int .u64 ((o.getD 0 : Nat) : Int), .bool o.isSome]
def predO (x : Nat) : Option Nat := if x = 0 then none else some (x - 1)
theorem prev_any (x : Nat) (hx : x < 18446744073709551616) (w : World) : Calls Tryz.prog 188 #[.int .u64 x] w fun e w' => e = .returned (nextV (predO x)) ∧ Below w.heap.size w w' := by
 by_cases h : x = 0
 · subst h
   go_enter Tryz.func188, Tryz.ntmps188
   go_wp2
   all_goals go_ret2
   all_goals exact ⟨by simp [nextV, predO], by first | exact Below.refl _ _ | exact below_drewN' (Below.refl _ _) _⟩
 · have hw : IntKind.u64.wrap ((x : Int) - 1) = ((x - 1 : Nat) : Int) := by rw [IntKind.wrap_u64]; omega
   have hne : ((x : Int) == 0) = false := by rw [beq_eq_false_iff_ne]; omega
   have e : predO x = some (x - 1) := if_neg h
   rw [e]
   go_enter Tryz.func188, Tryz.ntmps188
   go_wp2
   all_goals go_ret2
   all_goals exact ⟨by simp [nextV], by first | exact Below.refl _ _ | exact below_drewN' (Below.refl _ _) _⟩
set_option maxRecDepth 20000 in
set_option maxHeartbeats 2000000 in
theorem snext_any (a : Option Addr) (n cap x : Nat) (l : List Iv) (w : World) (hI : Ivs w a n cap l) (hx : x < 18446744073709551616) :
 Calls Tryz.prog 200 #[.slice a n cap, .int .u64 x] w fun e w' => e = .returned (nextV (nextL l x)) ∧ Below w.heap.size w w' := by
 have HI := Lib.hid hI
 have Hl := Lib.hid hI.len
 have hm : n ≤ 9223372036854775807 := Nat.le_trans hI.room hI.most
 clear hI
 go_enter Tryz.func200, Tryz.ntmps200
 go_wp2
 go_loopw [12] (fun i wr => ∃ k : Nat, k ≤ n ∧ i = .int .i64 k ∧ Below w.heap.size w wr ∧ Hid (nextL l x = nextL (l.drop k) x)) (fun i _ => n - (intOf i).toNat)
 case atStart => exact ⟨0, by omega, rfl, Below.refl _ _, rfl⟩
 case round =>
  obtain ⟨k, hk, rfl, hb, ht⟩ := hrel
  by_cases hkn : k < n
  · obtain ⟨cb, co, rfl, hcell⟩ := HI.out.cells (by omega)
    obtain ⟨c1, c2⟩ := hcell k hkn
    clear hcell
    have hkl : k < l.length := by rw [Hl.out]; exact hkn
    have Hd := Lib.hid (show l.drop k = nthI l k :: l.drop (k + 1) from by rw [nthI_get hkl]; exact List.drop_eq_getElem_cons hkl)
    have hlt := HI.out.lt (nthI l k) (nthI_mem hkl)
    have c1 := (hb.cell (p := ⟨cb, co + k * 2, none⟩) (cell_lt c1)).trans c1
    have c2 := (hb.cell (p := ⟨cb, co + k * 2 + 1, none⟩) (cell_lt c2)).trans c2
    have Hb := Lib.hid hb
    have Hba := Lib.hid (fun C : Obj => hb.alloc hb.size C)
    clear hb hkl
    generalize nthI l k = s at *
    obtain ⟨p, q⟩ := s
    simp only at c1 c2 hlt
    have hkm : (k : Int) < (n : Int) := by omega
    have hk0 : (0 : Int) ≤ k := by omega
    by_cases h1 : x < p
    · have hd1 : decide ((x : Int) < (p : Int)) = true := by rw [decide_eq_true_iff]; omega
      have hd1' : decide (x < p) = true := by rw [decide_eq_true_iff]; omega
      have Hr := Lib.hid (show nextL l x = some p from by rw [ht.out, Hd.out, nextL, if_pos h1])
      clear h1
      go_wp2
      go_ret2
      exact ⟨by rw [Hr.out]; rfl, Hba.out _⟩
    · have hd1 : decide ((x : Int) < (p : Int)) = false := by rw [decide_eq_false_iff_not]; omega
      have hd1' : decide (x < p) = false := by rw [decide_eq_false_iff_not]; omega
      by_cases h2 : q < 18446744073709551615
      · have hc := Lib.hid (fun w => next_lt q h2 w)
        by_cases h3 : x < q + 1
        · have hd2 : decide ((x : Int) < (q : Int) + 1) = true := by rw [decide_eq_true_iff]; omega
          have hd2' : decide (x < q + 1) = true := by rw [decide_eq_true_iff]; omega
          have Hr := Lib.hid (show nextL l x = some (q + 1) from by rw [ht.out, Hd.out, nextL, if_neg h1, if_pos ⟨h2, h3⟩])
          clear h1 h2 h3
          go_wp2_with fail
          refine (hc.out _).mono ?_
          rintro e w3 ⟨rfl, hb3⟩
          have Hb3 := Lib.hid ((Hba.out _).trans (hb3.mono (Hba.out _).size))
          clear hb3
          go_wp2
          go_ret2
          exact ⟨by rw [Hr.out]; rfl, Hb3.out⟩
        · have hd2 : decide ((x : Int) < (q : Int) + 1) = false := by rw [decide_eq_false_iff_not]; omega
          have hd2' : decide (x < q + 1) = false := by rw [decide_eq_false_iff_not]; omega
          have Hr := Lib.hid (show nextL l x = nextL (l.drop (k + 1)) x from by rw [ht.out, Hd.out, nextL, if_neg h1, if_neg (fun h => h3 h.2)])
          clear h1 h2 h3
          go_wp2_with fail
          refine (hc.out _).mono ?_
          rintro e w3 ⟨rfl, hb3⟩
          have Hb3 := Lib.hid ((Hba.out _).trans (hb3.mono (Hba.out _).size))
          clear hb3
          go_wp2
          go_roundw
          case rel => exact ⟨k + 1, by omega, by go_num, Hb3.out, Hr.out⟩
          case measure => simp [intOf]; omega
      · obtain rfl : q = 18446744073709551615 := by omega
        have Hr := Lib.hid (show nextL l x = nextL (l.drop (k + 1)) x from by rw [ht.out, Hd.out, nextL, if_neg h1, if_neg (fun h => h2 h.1)])
        clear h1 h2
        go_wp2_with fail
        refine (next_max _).mono ?_
        rintro e w3 ⟨rfl, hb3⟩
        have Hb3 := Lib.hid ((Hba.out _).trans (hb3.mono (Hba.out _).size))
        clear hb3
        go_wp2
        go_roundw
        case rel => exact ⟨k + 1, by omega, by go_num, Hb3.out, Hr.out⟩
        case measure => simp [intOf]; omega
  · obtain rfl : k = n := by omega
    have Hr := Lib.hid (show nextL l x = none from by rw [ht.out, List.drop_eq_nil_of_le (by rw [Hl.out]; omega), nextL])
    go_wp2
    go_ret2
    exact ⟨by rw [Hr.out]; rfl, hb⟩
end
section
open Go.RowKit Go.Shelf
structure Kept (p : Nat → Prop) (A B : World) : Prop where
 os : B.os = A.os
 tape : B.tape = A.tape
 output : B.output = A.output
 size : A.heap.size ≤ B.heap.size
 row : ∀ k, k < A.heap.size → p k → B.heap[k]? = A.heap[k]?
variable {p q : Nat → Prop} {A B C : World}
theorem Kept.refl (p : Nat → Prop) (A : World) : Kept p A A := ⟨rfl, rfl, rfl, Nat.le_refl _, fun _ _ _ => rfl⟩
theorem Kept.trans (h : Kept p A B) (k : Kept p B C) : Kept p A C :=
 ⟨k.os.trans h.os, k.tape.trans h.tape, k.output.trans h.output, Nat.le_trans h.size k.size, fun i hi hp => (k.row i (Nat.lt_of_lt_of_le hi h.size) hp).trans (h.row i hi hp)⟩
theorem Kept.mono (h : Kept p A B) (hq : ∀ k, k < A.heap.size → q k → p k) : Kept q A B := ⟨h.os, h.tape, h.output, h.size, fun i hi hp => h.row i hi (hq i hi hp)⟩
theorem Kept.alloc (h : Kept p A B) (o : Obj) : Kept p A (B.alloc o) :=
 h.trans ⟨rfl, rfl, rfl, by simp, fun k hk _ => Below.heap_alloc _ _ _ hk⟩
theorem Kept.setCell (h : Kept p A B) {a : Addr} (ha : a.block < A.heap.size → ¬ p a.block) (u : Value) : Kept p A (B.setCell a u) :=
 ⟨h.os, h.tape, h.output, by simpa [World.setCell] using h.size, fun k hk hp => (Below.heap_setCell _ _ _ _ (fun e => by subst e; exact ha hk hp)).trans (h.row k hk hp)⟩
theorem Kept.putObj (h : Kept p A B) {r : Nat} (ha : r < A.heap.size → ¬ p r) (o : Obj) : Kept p A (B.putObj r o) :=
 ⟨h.os, h.tape, h.output, by simpa using h.size, fun k hk hp => (World.putObj_heap_other (fun e => by subst e; exact ha hk hp)).trans (h.row k hk hp)⟩
theorem Kept.below (h : Kept p A B) (hb : Below B.heap.size B C) : Kept p A C :=
 h.trans ⟨hb.os, hb.tape, hb.output, hb.size, fun k hk _ => hb.block k hk⟩
theorem Kept.grown {row : Option Nat} (h : Kept p A B) (hg : B.grownBy C row) (hr : ∀ k, row = some k → k < A.heap.size → ¬ p k) : Kept p A C :=
 ⟨hg.os.trans h.os, hg.tape.trans h.tape, hg.output.trans h.output, Nat.le_trans h.size hg.size,
  fun k hk hp => (hg.block k (Nat.lt_of_lt_of_le hk h.size) (fun e => hr k e.symm hk hp)).trans (h.row k hk hp)⟩
theorem Kept.drewN (h : Kept p A B) (n : Nat) : Kept p A (B.drewN n) := ⟨h.os, h.tape, h.output, h.size, h.row⟩
theorem Kept.drew (h : Kept p A B) : Kept p A B.drew := ⟨h.os, h.tape, h.output, h.size, h.row⟩
theorem Kept.cell (h : Kept p A B) {a : Addr} {v : Value} (hc : A.cell? a = some v) (ha : p a.block) : B.cell? a = some v :=
 (World.cell?_of_block (h.row a.block (cell_lt hc) ha)).trans hc
theorem Kept.frozen (h : Kept p A B) {a : Addr} (hc : a.block < A.heap.size) (ha : p a.block) : B.frozen? a = A.frozen? a :=
 World.frozen?_of_block (h.row a.block hc ha)
theorem kept_of_below {n : Nat} (h : Below n A B) : Kept (fun k => k < n) A B := ⟨h.os, h.tape, h.output, h.size, fun k _ hk => h.block k hk⟩
theorem Kept.toBelow {n : Nat} (h : Kept p A B) (hp : ∀ k, k < n → p k) (hn : n ≤ A.heap.size) : Below n A B := ⟨h.os, h.tape, h.output, h.size, fun k hk => h.row k (Nat.lt_of_lt_of_le hk hn) (hp k hk)⟩
end
section
open Go.RowKit Go.Shelf
def SeqW {α : Type} (n : Nat) (P : Program) (g : Nat) (lb : Array Value) (encs : α → Array Value) (V S : List α → Prop) (R p : Nat → Prop) (w : World) : Prop :=
 ∀ (l : Nat) (J Jx : List α → World → Prop) (W : World), w.heap.size ≤ l → Below w.heap.size w W →
   (∀ s A B, J s A → Kept (fun k => ¬ R k) A B → J s B) → (∀ s A B, Jx s A → Kept (fun k => ¬ R k) A B → Jx s B) →
   (∀ pre x W1, V (pre ++ [x]) → J pre W1 → YieldAt Fence.wide (n - 1) P l (encs x) W1 fun e W' =>
     (e = .returned (.bool true) ∧ J (pre ++ [x]) W' ∧ Kept p W1 W') ∨ (e = .returned (.bool false) ∧ Jx (pre ++ [x]) W')) →
   J [] W →
   CallsIn Fence.wide n P g (#[.func (.yield l) #[] #[]] ++ lb) W fun e W' => (∃ v, e = .returned v) ∧ ((∃ xs, S xs ∧ J xs W') ∨ (∃ pre, V pre ∧ Jx pre W'))
def endW {α : Type} (D : Nat) (p : Nat → Prop) (I : List α → World → Prop) (Ix : Code → List α → World → Prop) (xs : List α) (W : World) : Exit → Act → World → Prop
 | .normal, _, W' => Kept (fun k => p k ∨ k = D ∨ k = D + 1) W W' ∧ I xs W'
 | .ret, _, W' => Kept (fun k => k = D ∨ k = D + 1) W W' ∧ Ix .ret xs W'
 | .exit id, _, W' => Kept (fun k => k = D ∨ k = D + 1) W W' ∧ Ix (.exit id) xs W'
 | .goto t, _, W' => Kept (fun k => k = D ∨ k = D + 1) W W' ∧ Ix (.goto t) xs W'
 | .panic _, _, _ => False
 | .outgrown, _, _ => False
theorem wp_range {α : Type} {n : Nat} {P : Program} {g : Operand} {ps : Array Tmp} {assign body : Code} {Q : Exit → Act → World → Prop} {a : Act} {w : World}
 {gf : Nat} {lb : Array Value} (hg : a.eval g = .func (.func gf) #[] lb) (eg : ∀ args w, (callFunc gf args).run P w = .ok (.enter gf args) w)
 {encs : α → Array Value} {V S : List α → Prop} {R p : Nat → Prop} (hseq : SeqW (n - 1) P gf lb encs V S R p w) (hps : ∀ x, (encs x).size = ps.size)
 (hR : ∀ k, R k → k < w.heap.size) (hp : ∀ k, p k → k < w.heap.size)
 (I : List α → World → Prop) (Ix : Code → List α → World → Prop)
 (hI : ∀ s A B, I s A → Kept (fun k => ¬ R k ∧ k ≠ w.heap.size ∧ k ≠ w.heap.size + 1) A B → I s B)
 (hIx : ∀ c s A B, Ix c s A → Kept (fun k => ¬ R k ∧ k ≠ w.heap.size ∧ k ≠ w.heap.size + 1) A B → Ix c s B)
 (h0 : I [] w)
 (hround : ∀ pre x W, V (pre ++ [x]) → I pre W → w.heap.size + 2 ≤ W.heap.size →
   assign.wpIn (Fence.wide.inRound (w.heap.size + 1)) (n - 1 - 1) P (Exit.then (fun a₁ W₁ => Kept (fun k => p k ∨ k = w.heap.size ∨ k = w.heap.size + 1) W W₁ ∧
    ∀ W₂, Kept (fun k => k ≠ w.heap.size + 1) W₁ W₂ → W₂.heap.size = W₁.heap.size → body.wpIn (Fence.wide.inRound (w.heap.size + 1)) (n - 1 - 1) P (endW w.heap.size p I Ix (pre ++ [x]) W₂) a₁ W₂) (fun _ _ _ => False))
    { tmps := (ps.zip (encs x)).foldl (fun t (u, v) => t.setIfInBounds u v) a.tmps, defers := [] } W)
 (hdone : ∀ (xs : List α) (W : World), S xs → I xs W → W.heap[w.heap.size]? = some (.deferred (some [])) → Q .normal { a with defers := { target := .collected w.heap.size, args := #[] } :: a.defers } W)
 (hstop : ∀ (c : Code) (pre : List α) (W : World), V pre → Ix c pre W → W.heap[w.heap.size]? = some (.deferred (some [])) → c.wpIn Fence.wide n P Q { a with defers := { target := .collected w.heap.size, args := #[] } :: a.defers } W) :
 (Code.rangeFunc g ps assign body).wpIn Fence.wide n P Q a w := by
 refine wpIn_rangeFunc fun fn hfn => ?_
 obtain ⟨D, hD⟩ : ∃ D, D = w.heap.size := ⟨_, rfl⟩
 obtain ⟨rec, hrec⟩ : ∃ rec : LoopState → Option Code → Loop, rec = fun st pe => { state := st, pending := pe, fn, tmps := a.tmps, params := ps, assign, body, defers := D } := ⟨_, rfl⟩
 obtain ⟨W1, hW1⟩ : ∃ W1, (w.alloc (.deferred (some []))).alloc (.loop (rec .ready none)) = W1 := ⟨_, rfl⟩
 have hsize : W1.heap.size = D + 2 := by rw [← hW1, hD]; simp
 have hL : W1.heap[D + 1]? = some (.loop (rec .ready none)) := by
  rw [← hW1, hD]
  have h := World.alloc_heap_new (w.alloc (.deferred (some []))) (.loop (rec .ready none))
  rwa [World.size_alloc] at h
 have hK : W1.heap[D]? = some (.deferred (some [])) := by
  rw [← hW1, hD]
  exact (Below.heap_alloc _ _ _ (by simp)).trans (World.alloc_heap_new w _)
 have hkW : Kept (fun _ => True) w W1 := by rw [← hW1]; exact ((Kept.refl _ w).alloc _).alloc _
 have hI1 : I [] W1 := hI _ _ _ h0 (hkW.mono fun _ _ _ => trivial)
 refine ⟨D + 1, [{ target := .collected D, args := #[] }], W1, { target := .fn (.func gf) lb, args := #[.func (.yield (D + 1)) #[] #[]] }, W1, gf,
  #[.func (.yield (D + 1)) #[] #[]] ++ lb, W1, ?_, ?_, fun _ _ => trivial, ?_, (fun h => by cases h), ?_⟩
 · rw [← hW1, hrec, hD]; exact run_enterLoop_outer _ _ _ _ _
 · simp only [resolve, hg]
   simp [go_sem]
 · simp [invoke, go_sem, eg]
 have hbook : ∀ {A B : World}, Kept (fun k => ¬ R k) A B → Kept (fun k => ¬ R k ∧ k ≠ w.heap.size ∧ k ≠ w.heap.size + 1) A B := fun h => h.mono fun k _ hk => hk.1
 have hnR : ¬ R D ∧ ¬ R (D + 1) := ⟨fun h => by have := hR _ h; omega, fun h => by have := hR _ h; omega⟩
 have hnp : ¬ p D ∧ ¬ p (D + 1) := ⟨fun h => by have := hp _ h; omega, fun h => by have := hp _ h; omega⟩
 have hrow : ∀ {A B : World} {k : Nat} {o : Obj} {u : Nat → Prop}, Kept u A B → u k → A.heap[k]? = some o → B.heap[k]? = some o := fun h hu ho =>
  (h.row _ (Array.getElem?_eq_some_iff.1 ho).1 hu).trans ho
 have hturn : ∀ {s : List α} {A : World} {o : Obj}, I s A → I s (A.putObj (D + 1) o) := fun {s A o} h => hI _ _ _ h ((Kept.refl _ A).putObj (fun _ e => e.2.2 (by rw [hD])) o)
 have hturnx : ∀ {c : Code} {s : List α} {A : World} {o : Obj}, Ix c s A → Ix c s (A.putObj (D + 1) o) := fun {c s A o} h => hIx _ _ _ _ h ((Kept.refl _ A).putObj (fun _ e => e.2.2 (by rw [hD])) o)
 refine (hseq (D + 1)
  (fun pre W => I pre W ∧ W.heap[D + 1]? = some (.loop (rec .ready none)) ∧ W.heap[D]? = some (.deferred (some [])) ∧ D + 2 ≤ W.heap.size)
  (fun pre W => ∃ c, Ix c pre W ∧ W.heap[D + 1]? = some (.loop (rec .done (some c))) ∧ W.heap[D]? = some (.deferred (some [])))
  W1 (by omega) (hkW.toBelow (fun _ _ => trivial) (Nat.le_refl _))
  (fun s A B hs h => ⟨hI _ _ _ hs.1 (hbook h), hrow h hnR.2 hs.2.1, hrow h hnR.1 hs.2.2.1, Nat.le_trans hs.2.2.2 h.size⟩)
  (fun s A B hs h => by obtain ⟨c, h1, h2, h3⟩ := hs; exact ⟨c, hIx _ _ _ _ h1 (hbook h), hrow h hnR.2 h2, hrow h hnR.1 h3⟩)
  ?_ ⟨hI1, hL, hK, by omega⟩).mono ?_
 · rintro pre x W hV ⟨hi, hl, hk, hsz⟩
   have hy := run_yield (P := P) (args := encs x) hl (by rw [hrec]; exact hps x)
   rw [hrec] at hy
   refine ⟨fn, _, assign, body, hy, roundIn_of_wpIn hfn ?_⟩
   rw [hD]
   refine wpIn_mono (hround pre x W hV hi (by omega)) ?_
   rintro e a₁ Wa hq
   cases e with
   | normal =>
    obtain ⟨hka, hbody⟩ := hq
    have hl1 : Wa.heap[D + 1]? = some (.loop (rec .ready none)) := hrow hka (by rw [hD]; exact .inr (.inr rfl)) hl
    have hk1 : Wa.heap[D]? = some (.deferred (some [])) := hrow hka (by rw [hD]; exact .inr (.inl rfl)) hk
    rw [← hD]
    refine ⟨_, run_beginRound hl1 (by rw [hrec]), ?_⟩
    obtain ⟨Wb, hWb⟩ : ∃ Wb, Wb = Wa.putObj (D + 1) (.loop { rec .ready none with state := .busy }) := ⟨_, rfl⟩
    rw [← hWb]
    have hlt : D + 1 < Wa.heap.size := (Array.getElem?_eq_some_iff.1 hl1).1
    have hl2 : Wb.heap[D + 1]? = some (.loop { rec .ready none with state := .busy }) := by rw [hWb]; exact World.putObj_heap_same hlt
    have hk2 : Wb.heap[D]? = some (.deferred (some [])) := by rw [hWb]; exact (World.putObj_heap_other (by omega)).trans hk1
    have hab : Kept (fun k => k ≠ w.heap.size + 1) Wa Wb := by rw [hWb]; exact (Kept.refl _ Wa).putObj (fun _ e => e (by rw [hD])) _
    have hb2 := hbody Wb hab (by rw [hWb]; simp)
    rw [← hD] at hb2
    refine wpIn_mono hb2 ?_
    have fin : ∀ (jump : Option Code) (W3 : World), Kept (fun k => k = D ∨ k = D + 1) Wb W3 →
     (Instr.endRound (D + 1) jump).run P W3 = .ok (.bool jump.isNone) (W3.putObj (D + 1) (.loop (rec (if jump.isNone then .ready else .done) jump))) ∧
     (W3.putObj (D + 1) (.loop (rec (if jump.isNone then .ready else .done) jump))).heap[D + 1]? = some (.loop (rec (if jump.isNone then .ready else .done) jump)) ∧
     (W3.putObj (D + 1) (.loop (rec (if jump.isNone then .ready else .done) jump))).heap[D]? = some (.deferred (some [])) ∧ D + 2 ≤ W3.heap.size := by
     intro jump W3 h3
     have hl3 := hrow h3 (.inr rfl) hl2
     have hk3 := hrow h3 (.inl rfl) hk2
     have hlt3 := (Array.getElem?_eq_some_iff.1 hl3).1
     have hr := run_endRound (P := P) jump hl3
     rw [hrec] at hr ⊢
     exact ⟨hr, World.putObj_heap_same hlt3, (World.putObj_heap_other (by omega)).trans hk3, by omega⟩
    have small : ∀ {W3 : World}, Kept (fun k => p k ∨ k = D ∨ k = D + 1) Wb W3 → Kept (fun k => k = D ∨ k = D + 1) Wb W3 := fun h => h.mono fun _ _ hk => .inr hk
    rintro e a3 W3 hp3
    cases e with
    | normal =>
     obtain ⟨h3, hi3⟩ := hp3
     obtain ⟨e1, e2, e3, e4⟩ := fin none W3 (small h3)
     refine ⟨_, _, e1, .inl ⟨rfl, ⟨hturn hi3, e2, e3, by simpa using e4⟩, ?_⟩⟩
     have k1 : Kept p W Wa := hka.mono fun _ _ hk => .inl hk
     have k2 : Kept p Wa Wb := hab.mono fun k _ hk e => hnp.2 (by rw [hD]; exact e ▸ hk)
     have k3 : Kept p Wb W3 := h3.mono fun _ _ hk => .inl hk
     exact ((k1.trans k2).trans k3).putObj (fun _ hk => hnp.2 hk) _
    | ret =>
     obtain ⟨h3, hi3⟩ := hp3
     obtain ⟨e1, e2, e3, _⟩ := fin (some .ret) W3 h3
     exact ⟨_, _, e1, .inr ⟨rfl, .ret, hturnx hi3, e2, e3⟩⟩
    | exit id =>
     obtain ⟨h3, hi3⟩ := hp3
     obtain ⟨e1, e2, e3, _⟩ := fin (some (.exit id)) W3 h3
     exact ⟨_, _, e1, .inr ⟨rfl, .exit id, hturnx hi3, e2, e3⟩⟩
    | goto t =>
     obtain ⟨h3, hi3⟩ := hp3
     obtain ⟨e1, e2, e3, _⟩ := fin (some (.goto t)) W3 h3
     exact ⟨_, _, e1, .inr ⟨rfl, .goto t, hturnx hi3, e2, e3⟩⟩
    | panic ch => exact hp3.elim
    | outgrown => exact hp3.elim
   | exit id => exact hq.elim
   | goto t => exact hq.elim
   | ret => exact hq.elim
   | panic ch => exact hq.elim
   | outgrown => exact hq.elim
 · rintro e W2 ⟨⟨v, rfl⟩, (⟨xs, hS, hi, hl, hk, _⟩ | ⟨pre, hV, c, hi, hl, hk⟩)⟩
   · have hr := run_endLoop (P := P) hl (by rw [hrec]; simp)
     rw [hrec] at hr
     refine ⟨none, _, hr, ?_⟩
     have := hdone xs _ hS (hturn hi (o := .loop { rec .ready none with state := .exhausted })) (by rw [← hD]; exact (World.putObj_heap_other (by omega)).trans hk)
     rw [hrec] at this
     rw [hD] at this ⊢
     exact this
   · have hr := run_endLoop (P := P) hl (by rw [hrec]; simp)
     rw [hrec] at hr
     refine ⟨some c, _, hr, ?_⟩
     have := hstop c pre _ hV (hturnx hi (o := .loop { rec .done (some c) with state := .exhausted })) (by rw [← hD]; exact (World.putObj_heap_other (by omega)).trans hk)
     rw [hrec] at this
     rw [hD] at this ⊢
     exact this
end
end Go.Proofs.YtkkdlgcfcbaibaaGreatDoor
