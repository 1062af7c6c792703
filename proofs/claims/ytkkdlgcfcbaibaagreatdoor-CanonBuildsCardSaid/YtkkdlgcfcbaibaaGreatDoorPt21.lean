/- Walks and laws, merged: part 21. -/
import Derived.Test.YtkkdlgcfcbaibaaGreatDoorPt20
import Derived.Test.YtkkdlgcfcbaibaaGreatDoorPt19
import Derived.Test.YtkkdlgcfcbaibaaGreatDoorPt09
section
namespace Go.Proofs.YtkkdlgcfcbaibaaGreatDoor
open Go.RowKit
set_option linter.unusedVariables false

/-- What is known at an item by the first fragments. -/
def atTo (k : Kno) (x d : Nat) : Vec := atK (k.take d) x
theorem atTo_zero (k : Kno) (x : Nat) : atTo k x 0 = [] := rfl
theorem atTo_succ {k : Kno} {x d : Nat} (h : d < k.length) : atTo k x (d + 1) = if mem (nthF k d).1 x = true then doV gOr (atTo k x d) (nthF k d).2 else atTo k x d := by
  unfold atTo atK
  rw [List.take_succ_eq_append_getElem h, List.foldl_append, nthF_get h]
  rfl
theorem atTo_all (k : Kno) (x : Nat) : atTo k x k.length = atK k x := by unfold atTo; rw [List.take_length]

/-- Knowledge that is small enough to be walked. -/
structure KnoFits (k : Kno) : Prop where
  len : k.length ≤ 500
  items : ∀ f ∈ k, f.1.length ≤ 500
  vec : ∀ f ∈ k, VecFits f.2
  at_ : ∀ x d, VecFits (atTo k x d)

theorem ltV_atTo {k : Kno} (h : LtK k) (x d : Nat) : LtV (atTo k x d) := (atK_can (fun f hf => h f (List.mem_of_mem_take hf)) x).2.1

/-- The fragments so far that have an item. -/
def memTo (k : Kno) (x d : Nat) : List Nat := (List.range d).filter fun i => mem (nthF k i).1 x
theorem memTo_succ (k : Kno) (x d : Nat) : memTo k x (d + 1) = memTo k x d ++ (if mem (nthF k d).1 x = true then [d] else []) := by
  unfold memTo
  rw [List.range_succ, List.filter_append]
  congr 1
  by_cases h : mem (nthF k d).1 x = true
  · simp [h]
  · simp [h]
theorem memTo_len (k : Kno) (x d : Nat) : (memTo k x d).length ≤ d := by
  have := List.length_filter_le (fun i => mem (nthF k i).1 x) (List.range d)
  simpa [memTo] using this

set_option maxRecDepth 20000 in
set_option maxHeartbeats 4000000 in
theorem refSame11_any (a d : Option Addr) (n c n' c' : Nat) (v u : Kno) (w : World) (hE : Frags w a n c v) (hF : Frags w d n' c' u) :
    Calls Tryz.prog 19 #[.slice a n c, .slice d n' c'] w fun x w' => x = .returned (.bool (decide (v = u))) ∧ Below w.heap.size w w' := by
  have HE := Lib.hid hE; have HF := Lib.hid hF
  have Hl := Lib.hid hE.len; have Hl' := Lib.hid hF.len
  have hm : n ≤ 9223372036854775807 := Nat.le_trans hE.room hE.most
  have hm' : n' ≤ 9223372036854775807 := Nat.le_trans hF.room hF.most
  clear hE hF
  by_cases hne : n = n'
  · subst hne
    have hz : ((n : Int) != (n : Int)) = false := by simp
    go_enter Tryz.func19, Tryz.ntmps19
    go_wp2
    go_loopw [5] (fun i wr => ∃ k : Nat, k ≤ n ∧ i = .int .i64 k ∧ Below w.heap.size w wr ∧ Hid (∀ j, j < k → nthF v j = nthF u j)) (fun i _ => n - (intOf i).toNat)
    case atStart => exact ⟨0, by omega, rfl, Below.refl _ _, fun j h => by omega⟩
    case round =>
      obtain ⟨k, hk, rfl, hb, ht⟩ := hrel
      have Hb := Lib.hid hb; clear hb
      by_cases hkn : k < n
      · have HEr := Lib.hid (HE.out.below Hb.out); have HFr := Lib.hid (HF.out.below Hb.out)
        obtain ⟨bb, oo, rfl⟩ := HEr.out.some (by omega)
        obtain ⟨bd, od, rfl⟩ := HFr.out.some (by omega)
        obtain ⟨x1, m1, e1, x2, m2, e2, hq⟩ := HEr.out.fix hkn
        obtain ⟨y1, l1, f1, y2, l2, f2, hp⟩ := HFr.out.fix hkn
        have Hq := Lib.hid hq; have Hp := Lib.hid hp
        have hC := Lib.hid (fun w' (h : Below wr.heap.size wr w') => refSame_any x1 y1 m1 e1 l1 f1 (nthF v k).1 (nthF u k).1 w' (hq w' h).2.1 (hp w' h).2.1)
        have hD := Lib.hid (fun w' (h : Below wr.heap.size wr w') => refSame9_any x2 y2 m2 e2 l2 f2 (nthF v k).2 (nthF u k).2 w' (hq w' h).2.2.2 (hp w' h).2.2.2)
        have Hst := Lib.hid (show decide ((nthF v k).1 = (nthF u k).1) = true → decide ((nthF v k).2 = (nthF u k).2) = true → ∀ j, j < k + 1 → nthF v j = nthF u j from fun h h2 j hj => by
          by_cases e : j = k
          · rw [e]; exact Prod.ext (of_decide_eq_true h) (of_decide_eq_true h2)
          · exact ht.out j (by omega))
        have Hno1 := Lib.hid (show decide ((nthF v k).1 = (nthF u k).1) = false → v ≠ u from fun h h2 => by rw [h2] at h; simp at h)
        have Hno2 := Lib.hid (show decide ((nthF v k).2 = (nthF u k).2) = false → v ≠ u from fun h h2 => by rw [h2] at h; simp at h)
        have h0 : (0 : Int) ≤ k := by omega
        have h04 : (k : Int) < (n : Int) := by omega
        clear hq hp
        generalize decide ((nthF v k).1 = (nthF u k).1) = d1 at *
        generalize decide ((nthF v k).2 = (nthF u k).2) = d2 at *
        generalize nthF v k = f at *
        generalize nthF u k = g at *
        go_wp2_with fail
        go_cut [42] (fun t wc => t = .bool (!d1 || !d2) ∧ Hid (Below wr.heap.size wr wc))
        case first =>
          refine wp_region_below (by kernel_rfl) (by kernel_rfl) ?_
          cases d1 <;>
          (repeat (go_big_quiet_step ((intro hw; first
            | rfl
            | (have q0 := Hq.out _ hw
               have q1 := q0.1; have q2 := q0.2.2.1
               have p0 := Hp.out _ hw
               have p1 := p0.1; have p2 := p0.2.2.1
               clear q0 p0
               first
               | (go_at_call 14; exact keep_below hw (hC.out _ hw))
               | (go_at_call 48; exact keep_below hw (hD.out _ hw))
               | (go_simp
                  first | rfl | exact ⟨rfl, hw⟩ | (trace_state; fail)))))))
          all_goals
            refine wpQuiet_nil ?_
            intro w3 hb3
            go_wp2
            go_meet
            exact ⟨rfl, hb3⟩
        case rest =>
          obtain ⟨rfl, hb2⟩ := hcut
          have Hb2 := Lib.hid (Hb.out.trans (hb2.out.mono Hb.out.size))
          clear hb2
          cases d1 with
          | false =>
            have Hs := Lib.hid (show decide (v = u) = false from by rw [decide_eq_false_iff_not]; exact Hno1.out rfl)
            rw [Bool.not_false, Bool.true_or]
            clear Hno1 Hno2 Hst
            go_wp2
            go_ret
            exact ⟨by rw [Hs.out]; rfl, Hb2.out⟩
          | true =>
            cases d2 with
            | true =>
              have Hs := Lib.hid (Hst.out rfl rfl)
              rw [Bool.not_true, Bool.false_or]
              clear Hno1 Hno2 Hst
              go_wp2
              go_roundw
              case rel => exact ⟨k + 1, by omega, by go_num, Hb2.out, Hs.out⟩
              case measure => simp [intOf]; omega
            | false =>
              have Hs := Lib.hid (show decide (v = u) = false from by rw [decide_eq_false_iff_not]; exact Hno2.out rfl)
              rw [Bool.not_true, Bool.not_false, Bool.false_or]
              clear Hno1 Hno2 Hst
              go_wp2
              go_ret
              exact ⟨by rw [Hs.out]; rfl, Hb2.out⟩
      · obtain rfl : k = n := by omega
        have Hs := Lib.hid (show decide (v = u) = true from by
          rw [decide_eq_true_iff]
          refine List.ext_getElem (by rw [Hl.out, Hl'.out]) fun i h1 h2 => ?_
          have := ht.out i (by rw [← Hl.out]; exact h1)
          rwa [nthF_get h1, nthF_get h2] at this)
        go_wp2
        go_ret
        exact ⟨by rw [Hs.out]; rfl, Hb.out⟩
  · have hz : ((n : Int) != (n' : Int)) = true := by rw [bne_iff_ne]; omega
    have Hs := Lib.hid (show decide (v = u) = false from by
      rw [decide_eq_false_iff_not]
      intro h
      apply hne
      rw [← Hl.out, ← Hl'.out, h])
    clear hne
    go_enter Tryz.func19, Tryz.ntmps19
    go_wp2
    go_ret
    exact ⟨by rw [Hs.out]; rfl, Below.refl _ _⟩

end Go.Proofs.YtkkdlgcfcbaibaaGreatDoor
end

section
namespace Go.Proofs.YtkkdlgcfcbaibaaGreatDoor
open Go.RowKit
set_option linter.unusedVariables false

/-- The lists of the first fragments, as slices. -/
def LstTo (w : World) (k : Kno) (d : Nat) (xs : List Value) : Prop := xs.length = d ∧ ∀ i, i < d → ∃ x m c, xs[i]? = some (.slice x m c) ∧ ∀ w', Below w.heap.size w w' → Ivs w' x m c (nthF k i).1
theorem LstTo.snoc {w : World} {k : Kno} {d : Nat} {xs : List Value} {x : Option Addr} {m c : Nat} (h : LstTo w k d xs) (hI : ∀ w', Below w.heap.size w w' → Ivs w' x m c (nthF k d).1) : LstTo w k (d + 1) (xs ++ [.slice x m c]) := by
  refine ⟨by simp [h.1], fun i hi => ?_⟩
  by_cases e : i = d
  · subst e
    exact ⟨x, m, c, by rw [List.getElem?_append_right (by rw [h.1]; omega), h.1]; simp, hI⟩
  · obtain ⟨x', m', c', h1, h2⟩ := h.2 i (by omega)
    exact ⟨x', m', c', by rw [List.getElem?_append_left (by rw [h.1]; omega)]; exact h1, h2⟩
theorem LstTo.rls {w w' : World} {k : Kno} {n : Nat} {xs : List Value} {v : Value} (h : LstTo w k n xs) (hn : k.length = n) (hb : Below w.heap.size w w') (ho : w'.ownsRow w.heap.size 28 1 v n xs) : ∃ a c, v = .slice a n c ∧ Rls w' a n c (k.map (·.1)) := by
  have ho2 := ho
  rcases ho.2 with ⟨rfl, h0⟩ | ⟨g, cap, cur, rfl, hg, hh, hnc, hcm, _⟩
  · rw [h0] at hn ⊢
    exact ⟨none, 0, rfl, by simpa using hn, by omega, by omega, fun _ => rfl, fun h => by omega⟩
  · refine ⟨_, _, rfl, by simpa using hn, hnc, by unfold maxLen at hcm; omega, (by intro h; cases h), fun h0 => ⟨g, 0, rfl, fun i hi => ?_⟩⟩
    obtain ⟨x, m, c, e, h2⟩ := h.2 i hi
    have hI := h2 w' hb
    have c1 := ho2.cells (g := g) rfl _ _ e
    rw [add_at] at c1
    have hk : (k.map (·.1)).getD i [] = (nthF k i).1 := by
      have hi' : i < k.length := by omega
      rw [nthF_get hi', List.getD_eq_getElem?_getD, List.getElem?_map, List.getElem?_eq_getElem hi']
      rfl
    rw [hk]
    refine ⟨x, c, ?_, by rw [hI.len]; exact hI⟩
    rw [hI.len]; exact c1

end Go.Proofs.YtkkdlgcfcbaibaaGreatDoor
end

section
namespace Go.Proofs.YtkkdlgcfcbaibaaGreatDoor
open Go.RowKit
set_option linter.unusedVariables false

theorem wpList_append_ivs {w : World} {ops : Array Oper} {rest : List Oper} {o : Oper} {a : Act} {Q : Exit → Act → World → Prop} (hgd : o.guard = none) (s x : Operand)
    (ho : o.op = .call { callee := .builtin .append, args := #[s, x], argTypes := #[28, 28] }) (hty : o.type = 28)
    (base : Nat) (v : Value) (n : Nat) (xs : List Iv) (hs : a.eval s = v) (hown : w.ownsRow base 73 2 v n (ivC xs)) (A : Option Addr) (m c : Nat) (l : List Iv) (hx : a.eval x = .slice A m c) (hr : Rd w 2 A m (ivC l)) (hb : n + m ≤ 1000000) (hbase : base ≤ w.heap.size)
    (h : ∀ v' w', w'.ownsRow base 73 2 v' (n + m) (ivC (xs ++ l)) → w.grownBy w' v.ownBlock → wpList Tryz.prog ops Q rest (a.put o.dst v') w') : wpList Tryz.prog ops Q (o :: rest) a w := by
  obtain ⟨v', w', hrun, h1, h2⟩ := run_append_iv base v n xs hown A m c l hr hb hbase
  exact wpList_append_hr _ _ _ ho (by simp [Region.wanted, hgd]) _ _ hs hx v' w' (by rw [hty]; exact hrun) (h v' w' h1 h2)

/-- The pieces of the first starts. -/
def pieceTo (k : Kno) (d : Nat) : List Iv := ((pcsL (inK k) (startsK k)).take d).filterMap fun p => if p.2 = true then some p.1 else none
theorem pieceTo_succ {k : Kno} {d : Nat} (h : d < (startsK k).length) : pieceTo k (d + 1) = pieceTo k d ++ (if inK k (nth (startsK k) d) = true then [pieceOf (startsK k) d] else []) := by
  unfold pieceTo
  have hk : d < (pcsL (inK k) (startsK k)).length := by rw [pcsL_len]; exact h
  have e := pcsL_piece (inK k) h
  rw [List.getElem?_eq_getElem hk, Option.some.injEq] at e
  rw [List.take_succ_eq_append_getElem hk, List.filterMap_append, e]
  simp only [List.filterMap_cons, List.filterMap_nil]
  cases inK k (nth (startsK k) d) <;> rfl
theorem pieceTo_all (k : Kno) : pieceTo k (startsK k).length = piecesK k := by
  unfold pieceTo piecesK
  rw [List.take_of_length_le (by rw [pcsL_len]; exact Nat.le_refl _)]
theorem pieceTo_len (k : Kno) (d : Nat) : (pieceTo k d).length ≤ (startsK k).length := by
  have h := List.length_filterMap_le (fun p : Iv × Bool => if p.2 = true then some p.1 else none) ((pcsL (inK k) (startsK k)).take d)
  rw [List.length_take, pcsL_len] at h
  unfold pieceTo
  omega
end Go.Proofs.YtkkdlgcfcbaibaaGreatDoor
end

section
namespace Go.Proofs.YtkkdlgcfcbaibaaGreatDoor
open Go.RowKit
set_option linter.unusedVariables false

/-- The refined fragments of the first pieces. -/
def refTo (k : Kno) (d : Nat) : Kno := ((piecesK k).take d).map fun s => ([s], atK k s.1)
theorem refTo_succ {k : Kno} {d : Nat} (h : d < (piecesK k).length) : refTo k (d + 1) = refTo k d ++ [([nthI (piecesK k) d], atK k (nthI (piecesK k) d).1)] := by
  unfold refTo
  rw [List.take_succ_eq_append_getElem h, List.map_append, nthI_get h]
  rfl
theorem refTo_all (k : Kno) : refTo k (piecesK k).length = refineK k := by unfold refTo refineK; rw [List.take_length]
theorem refTo_len (k : Kno) (d : Nat) : (refTo k d).length ≤ (piecesK k).length := by
  unfold refTo
  rw [List.length_map, List.length_take]
  omega

/-- A row of one interval, as a list. -/
theorem ivSl_row {W : World} {g : Nat} {s : Iv} (h : W.heap[g]? = some (.cells #[.int .u64 ((s.1 : Nat) : Int), .int .u64 ((s.2 : Nat) : Int)] 73)) (hs : s.1 < 18446744073709551616 ∧ s.2 < 18446744073709551616) (b : Nat) : IvSl W b (.slice (some ⟨g, 0, none⟩) 1 1) [s] :=
  ⟨_, _, _, rfl, ivs_lit h hs, fun _ p hp => by cases hp; exact .inr ⟨_, _, h⟩⟩

theorem row2_new {X w' : World} {x y : Value} {T : TypeId} (h : Below (X.alloc (.cells #[x, y] T)).heap.size (X.alloc (.cells #[x, y] T)) w') : w'.heap[X.heap.size]? = some (.cells #[x, y] T) :=
  (h.block _ (by simp)).trans (row_new rfl)
theorem row2_newd {X w' : World} {x y : Value} {T : TypeId} (h : Below (X.alloc (.cells #[x, y] T)).drew.heap.size (X.alloc (.cells #[x, y] T)).drew w') : w'.heap[X.heap.size]? = some (.cells #[x, y] T) :=
  (h.block _ (by show X.heap.size < (X.alloc _).heap.size; simp)).trans (row_new rfl)

end Go.Proofs.YtkkdlgcfcbaibaaGreatDoor
end

section
namespace Go.Proofs.YtkkdlgcfcbaibaaGreatDoor
open Go.RowKit
set_option linter.unusedVariables false

theorem frgC_take : ∀ (ss : List (Value × Value)) (k : Nat), (frgC ss).take (k * 2) = frgC (ss.take k)
  | [], k => by simp [frgC]
  | s :: ss, 0 => by simp [frgC]
  | s :: ss, k + 1 => by
    have e1 : frgC (s :: ss) = s.1 :: s.2 :: frgC ss := rfl
    rw [e1, show (k + 1) * 2 = k * 2 + 1 + 1 by omega, List.take_succ_cons, List.take_succ_cons, frgC_take ss k]
    rfl
theorem frgC_drop : ∀ (ss : List (Value × Value)) (k : Nat), (frgC ss).drop (k * 2) = frgC (ss.drop k)
  | [], k => by simp [frgC]
  | s :: ss, 0 => by simp
  | s :: ss, k + 1 => by
    have e1 : frgC (s :: ss) = s.1 :: s.2 :: frgC ss := rfl
    rw [e1, show (k + 1) * 2 = k * 2 + 1 + 1 by omega, List.drop_succ_cons, List.drop_succ_cons, frgC_drop ss k]
    rfl
theorem frgC_set : ∀ (ss : List (Value × Value)) (k : Nat) (x y : Value), ((frgC ss).set (k * 2) x).set (k * 2 + 1) y = frgC (ss.set k (x, y))
  | [], k, x, y => by simp [frgC]
  | s :: ss, 0, x, y => rfl
  | s :: ss, k + 1, x, y => by
    have e1 : frgC (s :: ss) = s.1 :: s.2 :: frgC ss := rfl
    rw [e1, show (k + 1) * 2 + 1 = (k * 2 + 1) + 1 + 1 by omega, show (k + 1) * 2 = k * 2 + 1 + 1 by omega, List.set_cons_succ, List.set_cons_succ, List.set_cons_succ, List.set_cons_succ, frgC_set ss k x y]
    rfl

/-- Where knowledge of the call's own lies. -/
theorem OwnK.form {w : World} {base inner : Nat} {x : Value} {k : Kno} (h : OwnK w base inner x k) :
    (x = .slice none 0 0 ∧ k = []) ∨ ∃ g c ss, x = .slice (some ⟨g, 0, none⟩) k.length c ∧ base ≤ g ∧ g < w.heap.size ∧ k.length ≤ c ∧ c ≤ maxLen ∧ w.ownsRow base 39 2 (.slice (some ⟨g, 0, none⟩) k.length c) k.length (frgC ss) ∧ PartsT w inner k ss := by
  obtain ⟨ss, ho, hh⟩ := h
  have ho2 := ho
  rcases ho.2 with ⟨rfl, h0⟩ | ⟨g, cap, cur, rfl, hg, hr, hnc, hcm, _⟩
  · exact .inl ⟨rfl, List.length_eq_zero_iff.1 h0⟩
  · exact .inr ⟨g, cap, ss, rfl, hg, (Array.getElem?_eq_some_iff.1 hr).1, hnc, hcm, ho2, hh⟩

theorem OwnK.form2 {w : World} {base inner n c : Nat} {a : Option Addr} {k : Kno} (h : OwnK w base inner (.slice a n c) k) :
    (a = none ∧ n = 0 ∧ c = 0 ∧ k = []) ∨ ∃ g ss, a = some ⟨g, 0, none⟩ ∧ k.length = n ∧ base ≤ g ∧ g < w.heap.size ∧ n ≤ c ∧ c ≤ maxLen ∧ w.ownsRow base 39 2 (.slice (some ⟨g, 0, none⟩) n c) n (frgC ss) ∧ PartsT w inner k ss := by
  rcases h.form with ⟨e, h0⟩ | ⟨g, c', ss, e, h1⟩
  · cases e; exact .inl ⟨rfl, rfl, rfl, h0⟩
  · cases e; exact .inr ⟨g, ss, rfl, rfl, h1⟩
theorem own_frozen {w : World} {base g n c sz : Nat} {T : TypeId} {xs : List Value} (h : w.ownsRow base T sz (.slice (some ⟨g, 0, none⟩) n c) n xs) (i : Nat) : w.frozen? ⟨g, i, none⟩ = false := by
  rcases h.2 with ⟨h', _⟩ | ⟨g', cap, cur, h', hg, hr, _⟩
  · cases h'
  · cases h'; simp [World.frozen?, hr]

/-! Sums of items. -/
def isum : Kno → Nat
  | [] => 0
  | f :: k => f.1.length + isum k
theorem isum_mem : ∀ {k : Kno} {f : Frg}, f ∈ k → f.1.length ≤ isum k
  | g :: k, f, h => by
    rw [isum]
    rcases List.mem_cons.1 h with rfl | h
    · omega
    · have := isum_mem h; omega
theorem addG_sum : ∀ {k : Kno} {f : Frg}, (∀ g ∈ k, Lt64 g.1) → Lt64 f.1 → isum (addG k f) ≤ isum k + f.1.length ∧ (addG k f).length ≤ k.length + 1
  | [], f, _, _ => by simp [addG, isum]
  | g :: k, f, h, hf => by
    rw [addG]
    split
    · obtain ⟨h1, h2⟩ := addG_sum (k := k) (f := f) (fun g hg => h g (List.mem_cons_of_mem _ hg)) hf
      rw [isum, isum, List.length_cons, List.length_cons]
      omega
    · split
      · have := opL_len_or (h g List.mem_cons_self) hf
        rw [isum, isum, List.length_cons, List.length_cons]
        simp only
        omega
      · simp only [isum, List.length_cons]
        omega

/-- The groups of the first fragments. -/
def grpTo (k : Kno) (d : Nat) : Kno := (k.take d).foldl stepG []
theorem grpTo_succ {k : Kno} {d : Nat} (h : d < k.length) : grpTo k (d + 1) = stepG (grpTo k d) (nthF k d) := by
  unfold grpTo
  rw [List.take_succ_eq_append_getElem h, List.foldl_append, nthF_get h]
  rfl
theorem grpTo_all (k : Kno) : grpTo k k.length = groupK k := by unfold grpTo groupK; rw [List.take_length]
theorem grpTo_grp {k : Kno} (h : ∀ f ∈ k, RawF f) (d : Nat) : ∀ g ∈ grpTo k d, GrpF g :=
  (group_fold (k := k.take d) (out := []) (fun f hf => h f (List.mem_of_mem_take hf)) (fun g hg => by cases hg) List.Pairwise.nil).1
theorem fold_vec : ∀ {k out : Kno} {g : Frg}, g ∈ k.foldl stepG out → (∃ h ∈ out, h.2 = g.2) ∨ ∃ f ∈ k, canonV f.2 = g.2
  | [], out, g, h => .inl ⟨g, h, rfl⟩
  | f :: k, out, g, h => by
    rw [List.foldl_cons] at h
    rcases fold_vec h with ⟨e, he, e2⟩ | ⟨e, he, e2⟩
    · unfold stepG at he
      split at he
      · exact .inl ⟨e, he, e2⟩
      · rcases addG_vec he with h1 | ⟨g', hg', h1⟩
        · exact .inr ⟨f, List.mem_cons_self, h1.symm.trans e2⟩
        · exact .inl ⟨g', hg', h1.trans e2⟩
    · exact .inr ⟨e, List.mem_cons_of_mem _ he, e2⟩
theorem grpTo_fits {k : Kno} (h : ∀ f ∈ k, VecFits (canonV f.2)) (d : Nat) : ∀ g ∈ grpTo k d, VecFits g.2 := by
  intro g hg
  rcases fold_vec hg with ⟨e, he, _⟩ | ⟨f, hf, e⟩
  · cases he
  · rw [← e]; exact h f (List.mem_of_mem_take hf)
theorem isum_take : ∀ (k : Kno) (d : Nat), isum (k.take d) ≤ isum k
  | [], d => by simp [isum]
  | f :: k, 0 => by simp [isum]
  | f :: k, d + 1 => by rw [List.take_succ_cons, isum, isum]; have := isum_take k d; omega
theorem fold_sum : ∀ {k out : Kno}, (∀ f ∈ k, RawF f) → (∀ g ∈ out, GrpF g) → out.Pairwise VecLt → isum (k.foldl stepG out) ≤ isum out + isum k ∧ (k.foldl stepG out).length ≤ out.length + k.length
  | [], out, _, _, _ => by simp [isum]
  | f :: k, out, h1, h2, h3 => by
    rw [List.foldl_cons, isum, List.length_cons]
    have hk : ∀ f ∈ k, RawF f := fun g hg => h1 g (List.mem_cons_of_mem _ hg)
    by_cases hc : canonV f.2 = [] ∨ f.1 = []
    · have e : stepG out f = out := by unfold stepG; rw [if_pos hc]
      rw [e]
      have := fold_sum hk h2 h3
      omega
    · have e : stepG out f = addG out (f.1, canonV f.2) := by unfold stepG; rw [if_neg hc]
      rw [e]
      have hf := raw_grp (h1 f List.mem_cons_self) hc
      obtain ⟨a1, a2, -⟩ := addG_ok h2 h3 hf
      have h4 := fold_sum hk a1 a2
      have h5 := addG_sum (k := out) (f := (f.1, canonV f.2)) (fun g hg => (h2 g hg).items) hf.items
      simp only at h5
      omega
theorem grpTo_sum {k : Kno} (h : ∀ f ∈ k, RawF f) (d : Nat) : isum (grpTo k d) ≤ isum k ∧ (grpTo k d).length ≤ k.length := by
  have h1 := fold_sum (k := k.take d) (out := []) (fun f hf => h f (List.mem_of_mem_take hf)) (fun g hg => by cases hg) List.Pairwise.nil
  have h2 := isum_take k d
  rw [List.length_take] at h1
  simp only [isum, List.length_nil] at h1
  unfold grpTo
  omega

end Go.Proofs.YtkkdlgcfcbaibaaGreatDoor
end

section
namespace Go.Proofs.YtkkdlgcfcbaibaaGreatDoor
open Go.RowKit
set_option linter.unusedVariables false

end Go.Proofs.YtkkdlgcfcbaibaaGreatDoor
end
