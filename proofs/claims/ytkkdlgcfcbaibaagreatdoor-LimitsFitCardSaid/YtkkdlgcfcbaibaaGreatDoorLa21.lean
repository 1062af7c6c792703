/- Walks and laws, joined: La21. -/
import Derived.Test.YtkkdlgcfcbaibaaGreatDoorLa07
import Derived.Test.YtkkdlgcfcbaibaaGreatDoorLa08
import Derived.Test.YtkkdlgcfcbaibaaGreatDoorLa16
set_option linter.unusedVariables false
namespace Go.Proofs.YtkkdlgcfcbaibaaGreatDoor
section
open Go.RowKit Go.Shelf
def SeqW2 {α : Type} (n : Nat) (P : Program) (g : Nat) (lb : Array Value) (encs : α → Array Value) (V S : List α → Prop) (R : Nat → Prop) (Rel : World → World → Prop) (w : World) : Prop :=
 ∀ (l : Nat) (J Jx : List α → World → Prop) (W : World), w.heap.size ≤ l → Below w.heap.size w W →
   (∀ s A B, J s A → Kept (fun k => ¬ R k) A B → J s B) → (∀ s A B, Jx s A → Kept (fun k => ¬ R k) A B → Jx s B) →
   (∀ pre x W1, V (pre ++ [x]) → J pre W1 → YieldAt Fence.wide (n - 1) P l (encs x) W1 fun e W' =>
     (e = .returned (.bool true) ∧ J (pre ++ [x]) W' ∧ Rel W1 W') ∨ (e = .returned (.bool false) ∧ Jx (pre ++ [x]) W')) →
   J [] W →
   CallsIn Fence.wide n P g (#[.func (.yield l) #[] #[]] ++ lb) W fun e W' => (∃ v, e = .returned v) ∧ ((∃ xs, S xs ∧ J xs W') ∨ (∃ pre, V pre ∧ Jx pre W'))
def endW2 {α : Type} (D : Nat) (Rel : World → World → Prop) (I : List α → World → Prop) (Ix : Code → List α → World → Prop) (xs : List α) (W0 W : World) : Exit → Act → World → Prop
 | .normal, _, W' => Kept (fun k => k = D ∨ k = D + 1) W W' ∧ I xs W' ∧ Rel W0 W'
 | .ret, _, W' => Kept (fun k => k = D ∨ k = D + 1) W W' ∧ Ix .ret xs W'
 | .exit id, _, W' => Kept (fun k => k = D ∨ k = D + 1) W W' ∧ Ix (.exit id) xs W'
 | .goto t, _, W' => Kept (fun k => k = D ∨ k = D + 1) W W' ∧ Ix (.goto t) xs W'
 | .panic _, _, _ => False
 | .outgrown, _, _ => False
theorem wp_range2 {α : Type} {n : Nat} {P : Program} {g : Operand} {ps : Array Tmp} {assign body : Code} {Q : Exit → Act → World → Prop} {a : Act} {w : World}
 {gf : Nat} {lb : Array Value} (hg : a.eval g = .func (.func gf) #[] lb) (eg : ∀ args w, (callFunc gf args).run P w = .ok (.enter gf args) w)
 {encs : α → Array Value} {V S : List α → Prop} {R : Nat → Prop} {Rel : World → World → Prop} (hseq : SeqW2 (n - 1) P gf lb encs V S R Rel w) (hps : ∀ x, (encs x).size = ps.size)
 (hR : ∀ k, R k → k < w.heap.size) (hput : ∀ (A B : World) (r : Loop) (o : Obj), A.heap[w.heap.size + 1]? = some (.loop r) → Rel A B → Rel A (B.putObj (w.heap.size + 1) o))
 (I : List α → World → Prop) (Ix : Code → List α → World → Prop)
 (hI : ∀ s A B, I s A → Kept (fun k => ¬ R k ∧ k ≠ w.heap.size ∧ k ≠ w.heap.size + 1) A B → I s B)
 (hIx : ∀ c s A B, Ix c s A → Kept (fun k => ¬ R k ∧ k ≠ w.heap.size ∧ k ≠ w.heap.size + 1) A B → Ix c s B)
 (h0 : I [] w)
 (hround : ∀ pre x W, V (pre ++ [x]) → I pre W → w.heap.size + 2 ≤ W.heap.size → (∃ r, W.heap[w.heap.size + 1]? = some (.loop r)) →
   assign.wpIn (Fence.wide.inRound (w.heap.size + 1)) (n - 1 - 1) P (Exit.then (fun a₁ W₁ => Kept (fun k => k = w.heap.size ∨ k = w.heap.size + 1) W W₁ ∧
    ∀ W₂, Kept (fun k => k ≠ w.heap.size + 1) W₁ W₂ → W₂.heap.size = W₁.heap.size → body.wpIn (Fence.wide.inRound (w.heap.size + 1)) (n - 1 - 1) P (endW2 w.heap.size Rel I Ix (pre ++ [x]) W W₂) a₁ W₂) (fun _ _ _ => False))
    { tmps := (ps.zip (encs x)).foldl (fun t (u, v) => t.setIfInBounds u v) a.tmps, defers := [] } W)
 (hdone : ∀ (xs : List α) (W : World), S xs → I xs W → W.heap[w.heap.size]? = some (.deferred (some [])) → Q .normal { a with defers := { target := .collected w.heap.size, args := #[] } :: a.defers } W)
 (hstop : ∀ (c : Code) (pre : List α) (W : World), V pre → Ix c pre W → W.heap[w.heap.size]? = some (.deferred (some [])) → c.wpIn Fence.wide n P Q { a with defers := { target := .collected w.heap.size, args := #[] } :: a.defers } W) :
 (Code.rangeFunc g ps assign body).wpIn Fence.wide n P Q a w := by
 refine wpIn_rangeFunc fun fn hfn => ?_
 obtain ⟨D, hD⟩ : ∃ D, D = w.heap.size := ⟨_, rfl⟩
 obtain ⟨rec, hrec⟩ : ∃ rec : LoopState → Option Code → Loop, rec = fun st pe => { state := st, pending := pe, fn, tmps := a.tmps, params := ps, assign, body, defers := D } := ⟨_, rfl⟩
 obtain ⟨W1, hW1⟩ : ∃ W1, (w.alloc (.deferred (some []))).alloc (.loop (rec .ready none)) = W1 := ⟨_, rfl⟩
 have hsize : W1.heap.size = D + 2 := by rw [← hW1, hD]; simp
 have hL : W1.heap[D + 1]? = some (.loop (rec .ready none)) := by
  rw [← hW1, hD]
  have h := World.alloc_heap_new (w.alloc (.deferred (some []))) (.loop (rec .ready none))
  rwa [World.size_alloc] at h
 have hK : W1.heap[D]? = some (.deferred (some [])) := by
  rw [← hW1, hD]
  exact (Below.heap_alloc _ _ _ (by simp)).trans (World.alloc_heap_new w _)
 have hkW : Kept (fun _ => True) w W1 := by rw [← hW1]; exact ((Kept.refl _ w).alloc _).alloc _
 have hI1 : I [] W1 := hI _ _ _ h0 (hkW.mono fun _ _ _ => trivial)
 refine ⟨D + 1, [{ target := .collected D, args := #[] }], W1, { target := .fn (.func gf) lb, args := #[.func (.yield (D + 1)) #[] #[]] }, W1, gf,
  #[.func (.yield (D + 1)) #[] #[]] ++ lb, W1, ?_, ?_, fun _ _ => trivial, ?_, (fun h => by cases h), ?_⟩
 · rw [← hW1, hrec, hD]; exact run_enterLoop_outer _ _ _ _ _
 · simp only [resolve, hg]
   simp [go_sem]
 · simp [invoke, go_sem, eg]
 have hbook : ∀ {A B : World}, Kept (fun k => ¬ R k) A B → Kept (fun k => ¬ R k ∧ k ≠ w.heap.size ∧ k ≠ w.heap.size + 1) A B := fun h => h.mono fun k _ hk => hk.1
 have hnR : ¬ R D ∧ ¬ R (D + 1) := ⟨fun h => by have := hR _ h; omega, fun h => by have := hR _ h; omega⟩
 have hrow : ∀ {A B : World} {k : Nat} {o : Obj} {u : Nat → Prop}, Kept u A B → u k → A.heap[k]? = some o → B.heap[k]? = some o := fun h hu ho =>
  (h.row _ (Array.getElem?_eq_some_iff.1 ho).1 hu).trans ho
 have hturn : ∀ {s : List α} {A : World} {o : Obj}, I s A → I s (A.putObj (D + 1) o) := fun {s A o} h => hI _ _ _ h ((Kept.refl _ A).putObj (fun _ e => e.2.2 (by rw [hD])) o)
 have hturnx : ∀ {c : Code} {s : List α} {A : World} {o : Obj}, Ix c s A → Ix c s (A.putObj (D + 1) o) := fun {c s A o} h => hIx _ _ _ _ h ((Kept.refl _ A).putObj (fun _ e => e.2.2 (by rw [hD])) o)
 refine (hseq (D + 1)
  (fun pre W => I pre W ∧ W.heap[D + 1]? = some (.loop (rec .ready none)) ∧ W.heap[D]? = some (.deferred (some [])) ∧ D + 2 ≤ W.heap.size)
  (fun pre W => ∃ c, Ix c pre W ∧ W.heap[D + 1]? = some (.loop (rec .done (some c))) ∧ W.heap[D]? = some (.deferred (some [])))
  W1 (by omega) (hkW.toBelow (fun _ _ => trivial) (Nat.le_refl _))
  (fun s A B hs h => ⟨hI _ _ _ hs.1 (hbook h), hrow h hnR.2 hs.2.1, hrow h hnR.1 hs.2.2.1, Nat.le_trans hs.2.2.2 h.size⟩)
  (fun s A B hs h => by obtain ⟨c, h1, h2, h3⟩ := hs; exact ⟨c, hIx _ _ _ _ h1 (hbook h), hrow h hnR.2 h2, hrow h hnR.1 h3⟩)
  ?_ ⟨hI1, hL, hK, by omega⟩).mono ?_
 · rintro pre x W hV ⟨hi, hl, hk, hsz⟩
   have hy := run_yield (P := P) (args := encs x) hl (by rw [hrec]; exact hps x)
   rw [hrec] at hy
   refine ⟨fn, _, assign, body, hy, roundIn_of_wpIn hfn ?_⟩
   rw [hD]
   refine wpIn_mono (hround pre x W hV hi (by omega) ⟨_, by rw [← hD]; exact hl⟩) ?_
   rintro e a₁ Wa hq
   cases e with
   | normal =>
    obtain ⟨hka, hbody⟩ := hq
    have hl1 : Wa.heap[D + 1]? = some (.loop (rec .ready none)) := hrow hka (by rw [hD]; exact .inr rfl) hl
    have hk1 : Wa.heap[D]? = some (.deferred (some [])) := hrow hka (by rw [hD]; exact .inl rfl) hk
    rw [← hD]
    refine ⟨_, run_beginRound hl1 (by rw [hrec]), ?_⟩
    obtain ⟨Wb, hWb⟩ : ∃ Wb, Wb = Wa.putObj (D + 1) (.loop { rec .ready none with state := .busy }) := ⟨_, rfl⟩
    rw [← hWb]
    have hlt : D + 1 < Wa.heap.size := (Array.getElem?_eq_some_iff.1 hl1).1
    have hl2 : Wb.heap[D + 1]? = some (.loop { rec .ready none with state := .busy }) := by rw [hWb]; exact World.putObj_heap_same hlt
    have hk2 : Wb.heap[D]? = some (.deferred (some [])) := by rw [hWb]; exact (World.putObj_heap_other (by omega)).trans hk1
    have hab : Kept (fun k => k ≠ w.heap.size + 1) Wa Wb := by rw [hWb]; exact (Kept.refl _ Wa).putObj (fun _ e => e (by rw [hD])) _
    have hb2 := hbody Wb hab (by rw [hWb]; simp)
    rw [← hD] at hb2
    refine wpIn_mono hb2 ?_
    have fin : ∀ (jump : Option Code) (W3 : World), Kept (fun k => k = D ∨ k = D + 1) Wb W3 →
     (Instr.endRound (D + 1) jump).run P W3 = .ok (.bool jump.isNone) (W3.putObj (D + 1) (.loop (rec (if jump.isNone then .ready else .done) jump))) ∧
     (W3.putObj (D + 1) (.loop (rec (if jump.isNone then .ready else .done) jump))).heap[D + 1]? = some (.loop (rec (if jump.isNone then .ready else .done) jump)) ∧
     (W3.putObj (D + 1) (.loop (rec (if jump.isNone then .ready else .done) jump))).heap[D]? = some (.deferred (some [])) ∧ D + 2 ≤ W3.heap.size := by
     intro jump W3 h3
     have hl3 := hrow h3 (.inr rfl) hl2
     have hk3 := hrow h3 (.inl rfl) hk2
     have hlt3 := (Array.getElem?_eq_some_iff.1 hl3).1
     have hr := run_endRound (P := P) jump hl3
     rw [hrec] at hr ⊢
     exact ⟨hr, World.putObj_heap_same hlt3, (World.putObj_heap_other (by omega)).trans hk3, by omega⟩
    rintro e a3 W3 hp3
    cases e with
    | normal =>
     obtain ⟨h3, hi3, hr3⟩ := hp3
     obtain ⟨e1, e2, e3, e4⟩ := fin none W3 h3
     exact ⟨_, _, e1, .inl ⟨rfl, ⟨hturn hi3, e2, e3, by simpa using e4⟩, by rw [hD]; exact hput _ _ _ _ (by rw [← hD]; exact hl) hr3⟩⟩
    | ret =>
     obtain ⟨h3, hi3⟩ := hp3
     obtain ⟨e1, e2, e3, _⟩ := fin (some .ret) W3 h3
     exact ⟨_, _, e1, .inr ⟨rfl, .ret, hturnx hi3, e2, e3⟩⟩
    | exit id =>
     obtain ⟨h3, hi3⟩ := hp3
     obtain ⟨e1, e2, e3, _⟩ := fin (some (.exit id)) W3 h3
     exact ⟨_, _, e1, .inr ⟨rfl, .exit id, hturnx hi3, e2, e3⟩⟩
    | goto t =>
     obtain ⟨h3, hi3⟩ := hp3
     obtain ⟨e1, e2, e3, _⟩ := fin (some (.goto t)) W3 h3
     exact ⟨_, _, e1, .inr ⟨rfl, .goto t, hturnx hi3, e2, e3⟩⟩
    | panic ch => exact hp3.elim
    | outgrown => exact hp3.elim
   | exit id => exact hq.elim
   | goto t => exact hq.elim
   | ret => exact hq.elim
   | panic ch => exact hq.elim
   | outgrown => exact hq.elim
 · rintro e W2 ⟨⟨v, rfl⟩, (⟨xs, hS, hi, hl, hk, _⟩ | ⟨pre, hV, c, hi, hl, hk⟩)⟩
   · have hr := run_endLoop (P := P) hl (by rw [hrec]; simp)
     rw [hrec] at hr
     refine ⟨none, _, hr, ?_⟩
     have := hdone xs _ hS (hturn hi (o := .loop { rec .ready none with state := .exhausted })) (by rw [← hD]; exact (World.putObj_heap_other (by omega)).trans hk)
     rw [hrec] at this
     rw [hD] at this ⊢
     exact this
   · have hr := run_endLoop (P := P) hl (by rw [hrec]; simp)
     rw [hrec] at hr
     refine ⟨some c, _, hr, ?_⟩
     have := hstop c pre _ hV (hturnx hi (o := .loop { rec .done (some c) with state := .exhausted })) (by rw [← hD]; exact (World.putObj_heap_other (by omega)).trans hk)
     rw [hrec] at this
     rw [hD] at this ⊢
     exact this
end
section
open Go.RowKit Go.Shelf
attribute [local go_sem] Oper.semAt_some wide_fn
structure KeptT (base : Nat) (T : TypeId → Prop) (A B : World) : Prop where
 os : B.os = A.os
 tape : B.tape = A.tape
 output : B.output = A.output
 size : A.heap.size ≤ B.heap.size
 row : ∀ k, k < A.heap.size → (k < base ∨ ∃ C U fr, T U ∧ A.heap[k]? = some (.cells C U fr)) → B.heap[k]? = A.heap[k]?
theorem KeptT.toBelow {base : Nat} {T : TypeId → Prop} {A B : World} (h : KeptT base T A B) (hb : base ≤ A.heap.size) : Below base A B := ⟨h.os, h.tape, h.output, h.size, fun k hk => h.row k (by omega) (.inl hk)⟩
theorem KeptT.typed {base : Nat} {T : TypeId → Prop} {A B : World} (h : KeptT base T A B) {k : Nat} {C : Array Value} {U : TypeId} {fr : Nat × Nat} (hT : T U) (hr : A.heap[k]? = some (.cells C U fr)) : B.heap[k]? = some (.cells C U fr) :=
 (h.row k (Array.getElem?_eq_some_iff.1 hr).1 (.inr ⟨C, U, fr, hT, hr⟩)).trans hr
def isNumT (T : TypeId) : Prop := T = 73 ∨ T = 71 ∨ T = 37
theorem run_index_arr {P : Program} {w : World} (ty : TypeId) (cs : Array Value) (k len : Nat) (e : TypeId) (ik : IntKind) (v : Value)
 (hu : P.underlying ty = some (.array len e)) (hk : k < len) (he : P.underlying e = some (.int ik)) (hi : (P.info? e).map (·.size) = some 1) (hv : cs[k]? = some v) :
 (Instr.index ty (.agg cs) (.int .i64 (k : Int))).run P w = .ok v w := by
 cases hq : P.info? e with
 | none => simp [hq] at hi
 | some i =>
  have hsz : i.size = 1 := by simpa [hq] using hi
  simp only [Instr.index, asIntOf, Sem.run_bind, Sem.run_pure, Result.andThen_ok, run_underlying hu]
  have hk' : 0 ≤ (k : Int) ∧ (k : Int) < (len : Int) := ⟨by omega, by omega⟩
  simp [Sem.run_bind, part, isAgg, sizeOf, typeInfo, run_underlying he, hq, hsz, hv, hk']
theorem numbers_any (a : Option Addr) (n c : Nat) (w : World) : Calls Tryz.prog 198 #[.slice a n c] w fun e w' =>
 e = .returned (.func (.func 214) #[] #[.pointer (some ⟨w.heap.size, 0, none⟩)]) ∧ w' = w.alloc (.cells #[.slice a n c] 37) := by
 go_enter Tryz.func198, Tryz.ntmps198
 go_wp2
 go_ret
 exact ⟨rfl, rfl⟩
set_option maxRecDepth 100000 in
set_option maxHeartbeats 8000000 in
theorem numbers_seq (n : Nat) (w0 w : World) (ba : Nat) (a : Option Addr) (m c : Nat) (v : Vec) (hE : Ents w0 a m c v) (hb0 : Below w0.heap.size w0 w)
 (hbx : w.heap[ba]? = some (.cells #[.slice a m c] 37)) (hm : m ≤ 300) :
 SeqW2 n Tryz.prog 214 #[.pointer (some ⟨ba, 0, none⟩)] (fun x => #[.int .u64 ((x : Nat) : Int)]) (fun pre => ∃ rest, numV v = pre ++ rest) (fun xs => xs = numV v)
  (fun _ => False) (KeptT w0.heap.size isNumT) w := by
 intro l J Jx W hl hW hJ hJx hY h0
 have H0 := Lib.hid (hb0.trans (hW.mono hb0.size))
 have Hbx := Lib.hid ((hW.block ba (Array.getElem?_eq_some_iff.1 hbx).1).trans hbx)
 have HE := Lib.hid hE
 have Hlen := Lib.hid hE.len
 have HJ := Lib.hid (fun s A B (h : J s A) (hb : Below A.heap.size A B) => hJ s A B h ((Kept.refl _ A).below hb))
 have HY := Lib.hid hY; have Hj0 := Lib.hid h0
 clear hE hb0 hbx hW hJ hJx hY h0 hl
 refine callsIn_of_wp Tryz.func214 rfl trivial ?_ rfl
 simp only [Tryz.ntmps214, List.size_toArray, List.length_cons, List.length_nil, Nat.reduceAdd, Nat.reduceSub, Array.replicate_succ, Array.replicate_zero, List.push_toArray, List.append_toArray, List.nil_append, List.cons_append]
 have hwm : IntKind.u64.wrap (m : Int) = (m : Int) := by rw [IntKind.wrap_u64]; omega
 have q1 := box_cell Hbx.out
 have hV0 : numV v = [m] ++ v.flatMap numE := by unfold numV; rw [Hlen.out]; rfl
 obtain ⟨fn, tmps, assign, body, hy, hR⟩ := HY.out [] m W ⟨_, hV0⟩ Hj0.out
 clear hV0
 gi_wp2
 first | refine hR.mono ?_ | refine ⟨fun h => (by cases h), hR.mono ?_⟩
 rintro e W3 (⟨rfl, hJ3, hk3⟩ | ⟨rfl, hJx3⟩)
 · have H3 := Lib.hid (H0.out.trans (hk3.toBelow H0.out.size))
   have Hbx3 := Lib.hid (hk3.typed (.inr (.inr rfl)) Hbx.out)
   have HJ3 := Lib.hid (show J (preNum v 0) W3 from by
    have e : preNum v 0 = [] ++ [m] := by unfold preNum; rw [Hlen.out]; rfl
    rw [e]; exact hJ3)
   clear hk3 hJ3 hy hR q1
   have q1 := box_cell Hbx3.out
   gi_wp2
   clear q1
   gi_loopw [4, 6, 8, 17, 30, 41] (fun _ _ _ i _ _ wr => ∃ k : Nat, k ≤ m ∧ i = .int .i64 k ∧ Hid (Below w0.heap.size w0 wr ∧ wr.heap[ba]? = some (.cells #[.slice a m c] 37) ∧ J (preNum v k) wr)) (fun _ _ _ i _ _ _ => m - (intOf i).toNat)
   case atStart => exact ⟨0, by omega, rfl, H3.out, Hbx3.out, HJ3.out⟩
   case round =>
    obtain ⟨k, hk, rfl, hinv⟩ := hrel
    by_cases hkm : k < m
    · have hkv : k < v.length := by rw [Hlen.out]; exact hkm
      obtain ⟨bb, oo, rfl⟩ := HE.out.some (by omega)
      obtain ⟨x, d, cd, hq⟩ := HE.out.fix hkm
      obtain ⟨q1, q2, q3, -⟩ := hq wr hinv.out.1
      have HIv := Lib.hid (fun w' (h : Below w0.heap.size w0 w') => (hq w' h).2.2.2)
      have Hst := Lib.hid (preNum_succ hkv)
      have Hnum := Lib.hid (show numV v = preNum v (k + 1) ++ (v.drop (k + 1)).flatMap numE from by
       unfold numV preNum
       rw [List.cons_append, ← List.flatMap_append, List.take_append_drop])
      clear hq
      obtain ⟨P1, hP1⟩ : ∃ P1, preNum v (k + 1) = P1 := ⟨_, rfl⟩
      rw [hP1] at Hst Hnum
      have HP1 := Lib.hid hP1
      clear hP1
      generalize preNum v k = P at *
      generalize (v.drop (k + 1)).flatMap numE = rest at *
      generalize nthE v k = e at *
      obtain ⟨er, em, eh⟩ := e
      simp only at q1 q2 q3 HIv Hst
      have hlv := (HIv.out w0 (Below.refl _ _)).len
      have hdm : d ≤ 9223372036854775807 := Nat.le_trans (HIv.out w0 (Below.refl _ _)).room (HIv.out w0 (Below.refl _ _)).most
      have Hlv := Lib.hid hlv
      have hwd : IntKind.u64.wrap (d : Int) = (d : Int) := by rw [IntKind.wrap_u64]; omega
      have h0k : (0 : Int) ≤ k := by omega
      have h04 : (k : Int) < (m : Int) := by omega
      obtain ⟨b4, hb4⟩ : ∃ b4, b4 = wr.heap.size := ⟨_, rfl⟩
      have hrow : (wr.alloc (.cells #[.int .u64 er, .int .u64 em, .slice x d cd] 71)).heap[b4]? = some (.cells #[.int .u64 er, .int .u64 em, .slice x d cd] 71) := by rw [hb4]; exact row_new rfl
      have hal : Below wr.heap.size wr (wr.alloc (.cells #[.int .u64 er, .int .u64 em, .slice x d cd] 71)) := (Below.refl _ _).alloc (Nat.le_refl _) _
      have Hinv := Lib.hid (show Below w0.heap.size w0 (wr.alloc (.cells #[.int .u64 er, .int .u64 em, .slice x d cd] 71)) ∧ (wr.alloc (.cells #[.int .u64 er, .int .u64 em, .slice x d cd] 71)).heap[ba]? = some (.cells #[.slice (some ⟨bb, oo, none⟩) m c] 37) ∧ J P (wr.alloc (.cells #[.int .u64 er, .int .u64 em, .slice x d cd] 71)) from
       ⟨hinv.out.1.trans (hal.mono hinv.out.1.size), row_old hinv.out.2.1, HJ.out _ _ _ hinv.out.2.2 hal⟩)
      have Hrow := Lib.hid hrow
      clear hrow hal hlv hinv
      gi_wp2
      rw [← hb4]
      have Hb4e := Lib.hid hb4
      clear hb4
      gi_loopw [6, 30] (fun _ i wr => ∃ z : Nat, z ≤ 3 ∧ i = .int .i64 z ∧ Hid (Below w0.heap.size w0 wr ∧ wr.heap[ba]? = some (.cells #[.slice (some ⟨bb, oo, none⟩) m c] 37) ∧ wr.heap[b4]? = some (.cells #[.int .u64 er, .int .u64 em, .slice x d cd] 71) ∧ J (P ++ [er, em, d].take z) wr)) (fun _ i _ => 3 - (intOf i).toNat)
      case atStart => exact ⟨0, by omega, rfl, Hinv.out.1, Hinv.out.2.1, Hrow.out, by simpa using Hinv.out.2.2⟩
      case round =>
       obtain ⟨z, hz, rfl, hinv⟩ := hrel
       by_cases hz3 : z < 3
       · have hV : numV v = P ++ [er, em, d].take z ++ [nth [er, em, d] z] ++ ([er, em, d].drop (z + 1) ++ numH eh ++ rest) := by
          rw [Hnum.out, Hst.out]
          simp only [numE, Hlv.out]
          have hcs : z = 0 ∨ z = 1 ∨ z = 2 := by omega
          rcases hcs with rfl | rfl | rfl <;> simp [nth]
         have htk : P ++ [er, em, d].take z ++ [nth [er, em, d] z] = P ++ [er, em, d].take (z + 1) := by
          have hcs : z = 0 ∨ z = 1 ∨ z = 2 := by omega
          rcases hcs with rfl | rfl | rfl <;> simp [nth]
         have Htk := Lib.hid htk
         obtain ⟨fn, tmps, assign, body, hy, hR⟩ := HY.out _ _ wr ⟨_, hV⟩ hinv.out.2.2.2
         have hidx : (#[Value.int .u64 er, .int .u64 em, .int .u64 d] : Array Value)[z]? = some (.int .u64 ((nth [er, em, d] z : Nat) : Int)) := by
          have hcs : z = 0 ∨ z = 1 ∨ z = 2 := by omega
          rcases hcs with rfl | rfl | rfl <;> rfl
         have Hv := Lib.hid hV
         have hz0 : (0 : Int) ≤ z := by omega
         have hzi : (z : Int) < 3 := by omega
         have hix := fun w' => run_index_arr (P := Tryz.prog) (w := w') 273 #[Value.int .u64 er, .int .u64 em, .int .u64 d] z 3 24 .u64 _ Tryz.underlying273 hz3 Tryz.underlying24 (by kernel_rfl) hidx
         clear hV htk hidx
         generalize nth [er, em, d] z = y at *
         gi_wp2
         first | refine hR.mono ?_ | refine ⟨fun h => (by cases h), hR.mono ?_⟩
         rintro e W4 (⟨rfl, hJ4, hk4⟩ | ⟨rfl, hJx4⟩)
         · have H4 := Lib.hid (show Below w0.heap.size w0 W4 ∧ W4.heap[ba]? = some (.cells #[.slice (some ⟨bb, oo, none⟩) m c] 37) ∧ W4.heap[b4]? = some (.cells #[.int .u64 er, .int .u64 em, .slice x d cd] 71) ∧ J (P ++ [er, em, d].take (z + 1)) W4 from
            ⟨hinv.out.1.trans (hk4.toBelow hinv.out.1.size), hk4.typed (.inr (.inr rfl)) hinv.out.2.1, hk4.typed (.inr (.inl rfl)) hinv.out.2.2.1, by rw [← Htk.out]; exact hJ4⟩)
           clear hJ4 hk4 hy hR hix
           gi_wp2
           go_roundw
           case rel => exact ⟨z + 1, by omega, by go_num, H4.out⟩
           case measure => simp [intOf]; omega
         · have HX := Lib.hid (show ∃ pre, (∃ rest, numV v = pre ++ rest) ∧ Jx pre W4 from ⟨_, ⟨_, Hv.out⟩, hJx4⟩)
           clear hJx4 hy hR hix
           gi_wp2
           go_wp2
           refine bodyPost_ret (results_none rfl _ _ _) rfl ?_
           exact ⟨⟨_, rfl⟩, .inr HX.out⟩
       · obtain rfl : z = 3 := by omega
         have e3 : [er, em, d].take 3 = [er, em, d] := rfl
         rw [e3] at hinv
         have hr4 := row3_cells hinv.out.2.2.1
         have z0 := hr4.1; have z1 := hr4.2.1; have z2 := hr4.2.2.1
         clear hr4 e3
         gi_wp2
         clear z0 z1 z2
         gi_loopw [8, 41] (fun _ i wr => ∃ z : Nat, z ≤ d ∧ i = .int .i64 z ∧ Hid (Below w0.heap.size w0 wr ∧ wr.heap[ba]? = some (.cells #[.slice (some ⟨bb, oo, none⟩) m c] 37) ∧ J (P ++ [er, em, d] ++ numH (eh.take z)) wr)) (fun _ i _ => d - (intOf i).toNat)
         case atStart => exact ⟨0, by omega, rfl, hinv.out.1, hinv.out.2.1, by simpa [numH] using hinv.out.2.2.2⟩
         case round =>
          clear hinv
          obtain ⟨z, hz, rfl, hinv⟩ := hrel
          by_cases hzd : z < d
          · have hzl : z < eh.length := by rw [Hlv.out]; exact hzd
            obtain ⟨hb, ho, rfl, hc⟩ := (HIv.out w0 (Below.refl _ _)).cells (by omega)
            obtain ⟨c1, c2⟩ := hc z hzd
            have c1 := (hinv.out.1.cell (p := ⟨hb, ho + z * 2, none⟩) (cell_lt c1)).trans c1
            have c2 := (hinv.out.1.cell (p := ⟨hb, ho + z * 2 + 1, none⟩) (cell_lt c2)).trans c2
            clear hc
            have hsn := numH_snoc eh z hzl
            have hall : numH eh = numH (eh.take (z + 1)) ++ numH (eh.drop (z + 1)) := by
             unfold numH; rw [← List.flatMap_append, List.take_append_drop]
            generalize nthI eh z = s at *
            obtain ⟨sx, sy⟩ := s
            simp only at c1 c2 hsn
            have hV1 : numV v = P ++ [er, em, d] ++ numH (eh.take z) ++ [sx] ++ ([sy] ++ numH (eh.drop (z + 1)) ++ rest) := by
             rw [Hnum.out, Hst.out]
             simp only [numE, Hlv.out]
             rw [hall, hsn]
             simp
            have hV2 : numV v = P ++ [er, em, d] ++ numH (eh.take z) ++ [sx] ++ [sy] ++ (numH (eh.drop (z + 1)) ++ rest) := by
             rw [hV1]; simp
            have Hsn := Lib.hid (show P ++ [er, em, d] ++ numH (eh.take z) ++ [sx] ++ [sy] = P ++ [er, em, d] ++ numH (eh.take (z + 1)) from by rw [hsn]; simp)
            have HV1 := Lib.hid hV1; have HV2 := Lib.hid hV2
            obtain ⟨b8, hb8⟩ : ∃ b8, b8 = wr.heap.size := ⟨_, rfl⟩
            have hal : Below wr.heap.size wr (wr.alloc (.cells #[.int .u64 sx, .int .u64 sy] 73)) := (Below.refl _ _).alloc (Nat.le_refl _) _
            have hrow8 : (wr.alloc (.cells #[.int .u64 sx, .int .u64 sy] 73)).heap[b8]? = some (.cells #[.int .u64 sx, .int .u64 sy] 73) := by rw [hb8]; exact row_new rfl
            obtain ⟨fn, tmps, assign, body, hy, hR⟩ := HY.out _ _ (wr.alloc (.cells #[.int .u64 sx, .int .u64 sy] 73)) ⟨_, hV1⟩ (HJ.out _ _ _ hinv.out.2.2 hal)
            have Hinv := Lib.hid (show Below w0.heap.size w0 (wr.alloc (.cells #[.int .u64 sx, .int .u64 sy] 73)) ∧ (wr.alloc (.cells #[.int .u64 sx, .int .u64 sy] 73)).heap[ba]? = some (.cells #[.slice (some ⟨bb, oo, none⟩) m c] 37) from ⟨hinv.out.1.trans (hal.mono hinv.out.1.size), row_old hinv.out.2.1⟩)
            have Hrow8 := Lib.hid hrow8
            have Hb8 := Lib.hid hb8
            have h0z : (0 : Int) ≤ z := by omega
            have h0d : (z : Int) < (d : Int) := by omega
            clear hV1 hV2 hsn hall hal hrow8 hb8
            gi_wp2
            first | refine hR.mono ?_ | refine ⟨fun h => (by cases h), hR.mono ?_⟩
            rintro e W4 (⟨rfl, hJ4, hk4⟩ | ⟨rfl, hJx4⟩)
            · have h48 := hk4.typed (.inl rfl) Hrow8.out
              have y1 := cells_cell (i := 1) h48 rfl
              rw [Hb8.out] at y1
              have H4 := Lib.hid (show Below w0.heap.size w0 W4 ∧ W4.heap[ba]? = some (.cells #[.slice (some ⟨bb, oo, none⟩) m c] 37) from ⟨Hinv.out.1.trans (hk4.toBelow Hinv.out.1.size), hk4.typed (.inr (.inr rfl)) Hinv.out.2⟩)
              obtain ⟨fn2, tmps2, assign2, body2, hy2, hR2⟩ := HY.out _ _ W4 ⟨_, HV2.out⟩ hJ4
              clear hk4 h48 hy hR hJ4 c1 c2
              gi_wp2
              first | refine hR2.mono ?_ | refine ⟨fun h => (by cases h), hR2.mono ?_⟩
              rintro e W5 (⟨rfl, hJ5, hk5⟩ | ⟨rfl, hJx5⟩)
              · have H5 := Lib.hid (show Below w0.heap.size w0 W5 ∧ W5.heap[ba]? = some (.cells #[.slice (some ⟨bb, oo, none⟩) m c] 37) ∧ J (P ++ [er, em, d] ++ numH (eh.take (z + 1))) W5 from ⟨H4.out.1.trans (hk5.toBelow H4.out.1.size), hk5.typed (.inr (.inr rfl)) H4.out.2, by rw [← Hsn.out]; exact hJ5⟩)
                clear hk5 hJ5 hy2 hR2 y1
                gi_wp2
                refine ⟨⟨_, _, _, _, _, _, _, _, _, _, _, _, _, _, _, _, _, _, ⟨z + 1, by omega, ?_, H5.out⟩, rfl⟩, ?_⟩
                · go_num
                · simp [intOf]; omega
              · have HX := Lib.hid (show ∃ pre, (∃ rest, numV v = pre ++ rest) ∧ Jx pre W5 from ⟨_, ⟨_, HV2.out⟩, hJx5⟩)
                clear hJx5 hy2 hR2 y1
                gi_wp2
                go_wp2
                refine bodyPost_ret (results_none rfl _ _ _) rfl ?_
                exact ⟨⟨_, rfl⟩, .inr HX.out⟩
            · have HX := Lib.hid (show ∃ pre, (∃ rest, numV v = pre ++ rest) ∧ Jx pre W4 from ⟨_, ⟨_, HV1.out⟩, hJx4⟩)
              clear hJx4 hy hR c1 c2
              gi_wp2
              go_wp2
              refine bodyPost_ret (results_none rfl _ _ _) rfl ?_
              exact ⟨⟨_, rfl⟩, .inr HX.out⟩
          · obtain rfl : z = d := by omega
            have H5 := Lib.hid (show Below w0.heap.size w0 wr ∧ wr.heap[ba]? = some (.cells #[.slice (some ⟨bb, oo, none⟩) m c] 37) ∧ J (preNum v (k + 1)) wr from ⟨hinv.out.1, hinv.out.2.1, by
             have e : P ++ [er, em, z] ++ numH (eh.take z) = P1 := by
              rw [Hst.out, List.take_of_length_le (by rw [Hlv.out]; exact Nat.le_refl _), List.append_assoc]
              simp only [numE, Hlv.out]
              rfl
             rw [HP1.out, ← e]; exact hinv.out.2.2⟩)
            clear hinv
            gi_wp2
            go_roundw
            case rel => exact ⟨k + 1, by omega, by go_num, H5.out⟩
            case measure => simp [intOf]; omega
    · obtain rfl : k = m := by omega
      have hJk := hinv.out.2.2
      rw [← Hlen.out, preNum_all] at hJk
      have HJk := Lib.hid hJk
      clear hJk
      gi_wp2
      refine bodyPost_end (results_none rfl _ _ _) rfl ?_
      exact ⟨⟨_, rfl⟩, .inl ⟨_, rfl, HJk.out⟩⟩
 · have HX := Lib.hid (show ∃ pre, (∃ rest, numV v = pre ++ rest) ∧ Jx pre W3 from ⟨[] ++ [m], ⟨v.flatMap numE, by unfold numV; rw [Hlen.out]; rfl⟩, hJx3⟩)
   gi_wp2
   refine bodyPost_ret (results_none rfl _ _ _) rfl ?_
   exact ⟨⟨_, rfl⟩, .inr HX.out⟩
end
section
open Go.RowKit Go.Shelf
attribute [local go_sem] Oper.semAt_some wide_fn
theorem KeptT.refl (base : Nat) (T : TypeId → Prop) (A : World) : KeptT base T A A := ⟨rfl, rfl, rfl, Nat.le_refl _, fun _ _ _ => rfl⟩
theorem KeptT.trans {base : Nat} {T : TypeId → Prop} {A B C : World} (h : KeptT base T A B) (k : KeptT base T B C) : KeptT base T A C :=
 ⟨k.os.trans h.os, k.tape.trans h.tape, k.output.trans h.output, Nat.le_trans h.size k.size, fun i hi hp => (k.row i (Nat.lt_of_lt_of_le hi h.size) (hp.imp id fun ⟨C, U, fr, hT, hr⟩ => ⟨C, U, fr, hT, (h.row i hi (.inr ⟨C, U, fr, hT, hr⟩)).trans hr⟩)).trans (h.row i hi hp)⟩
theorem KeptT.of {base : Nat} {T : TypeId → Prop} {q : Nat → Prop} {A B : World} (h : Kept q A B) (s : Steady base T A B) : KeptT base T A B := ⟨h.os, h.tape, h.output, h.size, s.row⟩
set_option maxRecDepth 20000 in
set_option maxHeartbeats 4000000 in
theorem vecNumbers_any (a : Option Addr) (n c : Nat) (v : Vec) (w : World) (hE : Ents w a n c v) (hn : n ≤ 300) (hN : (numV v).length ≤ 900000) :
 Calls Tryz.prog 167 #[.slice a n c] w fun e w' =>
  (∃ y, e = .returned y ∧ w'.ownsRow w.heap.size 24 1 y (numV v).length (u64C (numV v))) ∧ Below w.heap.size w w' := by
 have HE := Lib.hid hE; have HN := Lib.hid hN
 clear hE hN
 refine (callsIn_wide (n := 3)).1 ?_
 refine callsIn_of_wp_marks Tryz.func167 rfl trivial ?_ rfl
 simp only [Tryz.ntmps167, List.size_toArray, List.length_cons, List.length_nil, Nat.reduceAdd, Nat.reduceSub, Array.replicate_succ, Array.replicate_zero, List.push_toArray, List.append_toArray, List.nil_append, List.cons_append]
 refine wpIn_wide.2 ?_
 go_wp2_with (go_at_call 198; refine (numbers_any _ _ _ _).mono ?_; rintro e w1 ⟨rfl, rfl⟩)
 refine (wpIn_wide (n := 3)).1 ?_
 obtain ⟨C0, hC0⟩ : ∃ C0 : Obj, C0 = .cells #[.slice none 0 0] 151 := ⟨_, rfl⟩
 obtain ⟨C1, hC1⟩ : ∃ C1 : Obj, C1 = .cells #[.slice a n c] 37 := ⟨_, rfl⟩
 rw [← hC0, ← hC1]
 have hs1 : (w.alloc C0).heap.size = w.heap.size + 1 := by simp
 obtain ⟨wl, hwl⟩ : ∃ wl : World, wl = (w.alloc C0).alloc C1 := ⟨_, rfl⟩
 rw [← hwl]
 try rw [hs1]
 have hsz : wl.heap.size = w.heap.size + 2 := by rw [hwl]; simp
 have hbw : Below w.heap.size w wl := by
  rw [hwl]
  exact ((Below.refl _ w).alloc (Nat.le_refl _) C0).alloc (by simp) C1
 have e0 : wl.heap[w.heap.size]? = some C0 := by rw [hwl]; exact row_old (row_new rfl)
 have e1 : wl.heap[w.heap.size + 1]? = some C1 := by rw [hwl]; exact row_new (by simp)
 clear hwl
 refine wp_range2 (n := 3) (gf := 214) (lb := #[.pointer (some ⟨w.heap.size + 1, 0, none⟩)]) rfl (enters_of Tryz.func214 (by kernel_rfl) rfl)
  (numbers_seq (3 - 1) w wl (w.heap.size + 1) a n c v HE.out hbw (by rw [e1, hC1]) hn)
  (fun x => rfl) (fun k hk => hk.elim) ?hput
  (fun pre W => Below w.heap.size w W ∧ ∃ v, W.heap[w.heap.size]? = some (.cells #[v] 151) ∧ W.ownsRow (w.heap.size + 4) 24 1 v pre.length (u64C pre))
  (fun _ _ _ => False) ?hI (fun _ _ _ _ h _ => h) ⟨hbw, .slice none 0 0, by rw [e0, hC0], World.ownsRow_nil ..⟩ ?round ?done ?stop
 case hput =>
  intro A B r o hA hk
  rw [hsz] at hA ⊢
  refine ⟨hk.os, hk.tape, hk.output, by simpa using hk.size, fun k hk1 hp => ?_⟩
  refine (World.putObj_heap_other ?_).trans (hk.row k hk1 hp)
  rintro rfl
  rcases hp with h | ⟨C, U, fr, _, h⟩
  · omega
  · rw [hA] at h; cases h
 case hI =>
  rintro s A B ⟨h4, v, h2, h3⟩ hk
  have hs := h4.size
  exact ⟨h4.trans (hk.toBelow (fun k hk' => ⟨id, by omega, by omega⟩) (by omega)), v, (hk.row _ (Array.getElem?_eq_some_iff.1 h2).1 ⟨id, by omega, by omega⟩).trans h2, own_same h3 (fun k hk1 hk2 => hk.row k hk2 ⟨id, by omega, by omega⟩)⟩
 case round =>
  rintro pre x W ⟨rest, hV⟩ ⟨h4, y, h2, h3⟩ hsW ⟨rl, hrl⟩
  rw [hsz] at hsW hrl ⊢
  have hlen : pre.length + 1 ≤ 900000 := by
   have := HN.out
   rw [hV, List.length_append, List.length_append, List.length_singleton] at this
   omega
  clear hsz hbw e0 e1 hC0 hC1 hV
  gi_wp2
  refine ⟨Kept.refl _ W, fun W2 hk2 hs2 => ?_⟩
  have b2 : W2.heap[w.heap.size]? = some (.cells #[y] 151) := (hk2.row _ (Array.getElem?_eq_some_iff.1 h2).1 (by omega)).trans h2
  have B3 := Lib.hid (own_same h3 (fun k hk1 hk2' => hk2.row k hk2' (by omega)))
  have B4 := Lib.hid (h4.trans (hk2.toBelow (n := w.heap.size) (fun k hk' => by omega) h4.size))
  have hst : Steady w.heap.size isNumT W W2 := ⟨hk2.size, fun k hk hp => hk2.row k hk (by
   rintro rfl
   rcases hp with h | ⟨C, U, fr, _, h⟩
   · omega
   · rw [hrl] at h; cases h)⟩
  have K2 := Lib.hid (And.intro hk2 hst)
  have hB4 : w.heap.size + 4 ≤ W2.heap.size := by omega
  clear hk2 h2 h3 h4 hs2 hst hrl
  have hB2 := B4.out.size
  obtain ⟨ao, co, rfl⟩ := own_slice B3.out
  have q1 := box_cell b2
  have q2 := box_frozen b2
  have Hb2 := Lib.hid b2
  clear b2
  obtain ⟨v', w5, hr, ho, hgr⟩ := run_append_u64 (w.heap.size + 4) (.slice ao pre.length co) pre.length pre (B3.out.alloc (.cells #[.int .u64 x] 24)) (some ⟨W2.heap.size, 0, none⟩) 1 1 [x] (rd_block (heap_at_new _ _ _ rfl) rfl rfl) (by omega) (by simp; omega)
  obtain ⟨g', cap', rfl⟩ := ownsRow_succ ho
  have hne : some w.heap.size ≠ (.slice ao pre.length co : Value).ownBlock := fun e => by have := (B3.out.lt _ e.symm).1; omega
  have e5 : w5.heap[w.heap.size]? = some (.cells #[.slice ao pre.length co] 151) := (hgr.block _ (by simp; omega) hne).trans (row_old Hb2.out)
  have q5 := box_cell e5
  have q6 := box_frozen e5
  have He5 := Lib.hid e5; have Ho := Lib.hid ho; have Hgr := Lib.hid hgr
  clear e5 ho hgr hne
  gi_wp2_with (gi_at_builtin; refine wpListIn_append_hr rfl _ _ 151 rfl _ _ rfl rfl _ _ hr ?_)
  refine ⟨?_, ⟨?_, _, box_set He5.out, ?_⟩, ?_⟩
  · exact (((Kept.refl _ W2).alloc _).grown Hgr.out (fun k hk _ => by have := (B3.out.lt k hk).1; omega)).setCell (fun _ => by simp only; omega) _
  · exact ((B4.out.alloc B4.out.size _).grown Hgr.out (by simp; omega) (fun k hk => by have := (B3.out.lt k hk).1; omega)).setCell (by simp only; omega) _
  · have h := own_same Ho.out (w' := w5.setCell ⟨w.heap.size, 0, none⟩ (.slice (some ⟨g', 0, none⟩) (pre.length + 1) cap')) (fun k hk1 hk2 => Below.heap_setCell _ _ _ _ (by simp only; omega))
    rw [List.length_append]
    exact h
  · have s1 : Steady w.heap.size isNumT W2 (W2.alloc (.cells #[.int .u64 x] 24)) := .of_below ((Below.refl _ _).alloc (Nat.le_refl _) _)
    have s2 : Steady w.heap.size isNumT (W2.alloc (.cells #[.int .u64 x] 24)) w5 := Steady.grown (own_mono (b := w.heap.size) (B3.out.alloc _) (by omega)) Hgr.out (by rintro (h | h | h) <;> cases h)
    have s3 : Steady w.heap.size isNumT w5 (w5.setCell ⟨w.heap.size, 0, none⟩ (.slice (some ⟨g', 0, none⟩) (pre.length + 1) cap')) := Steady.setCell (a := ⟨w.heap.size, 0, none⟩) He5.out (Nat.le_refl _) (by rintro (h | h | h) <;> cases h)
    refine KeptT.of (q := fun _ => False) (K2.out.1.mono (fun _ _ h => h.elim) |>.trans ?_) (((K2.out.2.trans s1).trans s2).trans s3)
    exact (((Kept.refl _ W2).alloc _).grown Hgr.out (fun k hk _ h => h)).setCell (fun _ h => h) _
 case done =>
  rintro ps W rfl ⟨h4, y, h2, h3⟩ hK
  have q1 := box_cell h2
  have H3 := Lib.hid h3; have H4 := Lib.hid h4
  clear h2 h3 h4 e0 e1
  gi_wp2
  go_wp2
  refine ⟨by simp, .inl ⟨_, _, rfl, run_takeDeferred hK, ?_⟩⟩
  refine ⟨_, results_tmp rfl _ _ _, ⟨y, rfl, ?_⟩, ?_⟩
  · refine own_mono (own_same H3.out (fun k hk1 hk2 => World.putObj_heap_other (by omega))) (by omega)
  · exact (Kept.refl (fun k => k < w.heap.size) W).putObj (fun _ h => by have h' : wl.heap.size < w.heap.size := h; omega) _ |>.toBelow (fun _ h => h) H4.out.size |> H4.out.trans
 case stop =>
  rintro c pre W hV h
  exact h.elim
end
end Go.Proofs.YtkkdlgcfcbaibaaGreatDoor
