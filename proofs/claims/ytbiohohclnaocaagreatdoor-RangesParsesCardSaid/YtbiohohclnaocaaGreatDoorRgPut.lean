/-
  Walk: kenningref04.Put.
-/
import Derived.Test.YtbiohohclnaocaaGreatDoorRgU64
import Derived.Test.YtbiohohclnaocaaGreatDoorRgRef
import Derived.Deep.RegionHeld3
namespace Go.Proofs.YtbiohohclnaocaaGreatDoor
open Go.RowKit
set_option linter.unusedVariables false

theorem own_empty {w : World} {base g sz : Nat} {e : TypeId} (h : w.heap[g]? = some (.cells #[] e (0, 0))) (hb : base ≤ g) : w.ownsRow base e sz (.slice (some ⟨g, 0, none⟩) 0 0) 0 [] :=
  ⟨by simp, .inr ⟨g, 0, #[], rfl, hb, h, Nat.le_refl _, by unfold maxLen; omega, by simp, by simp⟩⟩

theorem rd_block {w : World} {g sz n : Nat} {e : TypeId} {C : Array Value} {fr : Nat × Nat} {xs : List Value} (h : w.heap[g]? = some (.cells C e fr)) (hC : C = xs.toArray) (hx : xs.length = n * sz) : Rd w sz (some ⟨g, 0, none⟩) n xs := by
  subst hC
  refine ⟨hx, fun _ => ⟨g, 0, rfl, fun j u hu => ?_⟩⟩
  simp only [World.cell?, h]
  simpa using hu

/-- An append in a region that draws its order: what it leaves is told to the rest. -/
theorem step_append_iv {w : World} {ops : Array Oper} {o : Oper} {a : Act} {K : Act → World → Prop} {Q : Exit → Act → World → Prop} {E : Prop} (hgd : o.guard = none) (s x : Operand)
    (ho : o.op = .call { callee := .builtin .append, args := #[s, x], argTypes := #[23, 23] }) (hty : o.type = 23)
    (base : Nat) (v : Value) (n : Nat) (xs : List Iv) (hs : a.eval s = v) (hown : w.ownsRow base 31 2 v n (ivC xs)) (A : Option Addr) (m c : Nat) (l : List Iv) (hx : a.eval x = .slice A m c) (hr : Rd w 2 A m (ivC l)) (hb : n + m ≤ 1000000) (hbase : base ≤ w.heap.size)
    (h : ∀ v' w', w'.ownsRow base 31 2 v' (n + m) (ivC (xs ++ l)) → w.grownBy w' v.ownBlock → K (a.put o.dst v') w') :
    if Region.wanted o (yielded ops a.tmps) = true then Oper.wp Tryz.prog o a w K Q else E := by
  obtain ⟨v', w', hrun, h1, h2⟩ := run_append_iv base v n xs hown A m c l hr hb hbase
  exact step_append_hr hgd s x _ ho _ _ hs hx v' w' (by rw [hty]; exact hrun) (h v' w' h1 h2)

theorem heap_at_new (w : World) (o : Obj) (g : Nat) (h : g = w.heap.size) : (w.alloc o).heap[g]? = some o := by subst h; exact heap_alloc_new w o
theorem heap_at_old (w : World) (o v : Obj) (g : Nat) (h : w.heap[g]? = some v) : (w.alloc o).heap[g]? = some v := (Below.heap_alloc w o g (by
  rcases Nat.lt_or_ge g w.heap.size with h' | h'
  · exact h'
  · rw [Array.getElem?_eq_none h'] at h; cases h)).trans h

theorem own_mono {w : World} {base b size n : Nat} {e : TypeId} {v : Value} {xs : List Value} (h : w.ownsRow base e size v n xs) (hb : b ≤ base) : w.ownsRow b e size v n xs :=
  ⟨h.1, h.2.imp id fun ⟨g, cap, cur, h1, h2, r⟩ => ⟨g, cap, cur, h1, Nat.le_trans hb h2, r⟩⟩

theorem rd_grown {w w' : World} {row : Option Nat} {sz g n : Nat} {xs : List Value} (hg : w.grownBy w' row) (h : Rd w sz (some ⟨g, 0, none⟩) n xs) (hr : some g ≠ row) (hlt : g < w.heap.size) : Rd w' sz (some ⟨g, 0, none⟩) n xs :=
  ⟨h.1, fun hn => by
    obtain ⟨b, o, e, hc⟩ := h.2 hn
    cases e
    refine ⟨_, _, rfl, fun j u hu => ?_⟩
    rw [← hc j u hu]
    exact World.cell?_of_block (hg.block _ hlt hr)⟩

theorem below_row {B : Nat} {a w w' : World} {v : Value} {base size n : Nat} {e : TypeId} {xs : List Value} (h : Below B a w) (hB : B ≤ base) (ho : w.ownsRow base e size v n xs) (hg : w.grownBy w' v.ownBlock) (hs : B ≤ w.heap.size) : Below B a w' :=
  h.grown hg hs (fun k hk => Nat.le_trans hB (ho.lt k hk).1)

set_option maxRecDepth 20000 in
set_option maxHeartbeats 2000000 in
theorem refPut_touch (g n k cap : Nat) (l : List Iv) (t s : Iv) (w0 w : World) (hb : Below w0.heap.size w0 w) (hown : w.ownsRow w0.heap.size 31 2 (.slice (some ⟨g, 0, none⟩) n cap) n (ivC (l ++ [t]))) (hk : n = k + 1) (hn : n ≤ 100000)
    (ht : t.1 < 18446744073709551616 ∧ t.2 < 18446744073709551616) (hs : s.1 < 18446744073709551616 ∧ s.2 < 18446744073709551616) (hts : relR t s = 1) :
    Calls Tryz.prog 49 #[.slice (some ⟨g, 0, none⟩) n cap, ivV s] w fun e w' => (∃ v', e = .returned v' ∧ w'.ownsRow w0.heap.size 31 2 v' n (ivC (l ++ [(t.1, s.2)]))) ∧ Below w0.heap.size w0 w' := by
  have hl : l.length = k := by have := hown.1; rw [ivC_length] at this; simp at this; omega
  have hR := Lib.hid (fun w => refRelate_any t s w ht hs)
  rw [hts] at hR
  have hcap : n ≤ cap := by
    rcases hown.2 with ⟨h', _⟩ | ⟨g', cap', cur, h', _, _, hnc, _⟩
    · simp at h'
    · simp only [Value.slice.injEq, Option.some.injEq, Addr.mk.injEq, and_true, true_and] at h'
      obtain ⟨rfl, rfl⟩ := h'
      exact hnc
  obtain ⟨e1, e2⟩ := ivC_get (l ++ [t]) k (by simp; omega)
  have hnt : nthI (l ++ [t]) k = t := by rw [nthI_get (by simp; omega), List.getElem_append_right (by omega)]; simp
  rw [hnt] at e1 e2
  have hc1 := (hown.cellAt (k * 2) (by omega)).trans e1
  have hc2 := (hown.cellAt (k * 2 + 1) (by omega)).trans e2
  have Ho := Lib.hid hown; have Hb := Lib.hid hb; have Hl := Lib.hid hl
  have hsub : IntKind.i64.wrap ((n : Int) - 1) = (k : Int) := by rw [IntKind.wrap_i64]; omega
  have hg0 : decide (0 < (n : Int)) = true := by rw [decide_eq_true_iff]; omega
  have hn0 : 0 < n := by omega
  have h01 : (k : Int) < (n : Int) := by omega
  have h02 : k ≤ cap := by omega
  have Hk := Lib.hid hk
  have hgl := cell_lt hc1
  simp only at hgl
  clear ht hs hts hown hb hl hnt e1 e2 hk hcap
  obtain ⟨x, y⟩ := t
  obtain ⟨z, u⟩ := s
  go_enter Tryz.func49, Tryz.ntmps49
  go_wp2_with fail
  have hA : Below w.heap.size w (w.alloc (.cells #[.int .u64 z, .int .u64 u] 31)) := (Below.refl _ _).alloc (Nat.le_refl _) _
  have q1 := (hA.cell (p := ⟨g, k * 2, none⟩) hgl).trans hc1
  have q2 := (hA.cell (p := ⟨g, k * 2 + 1, none⟩) hgl).trans hc2
  have q3 : (w.alloc (.cells #[.int .u64 z, .int .u64 u] 31)).cell? ⟨w.heap.size, 0, none⟩ = some (.int .u64 z) := by simp [go_sem]
  have q4 : (w.alloc (.cells #[.int .u64 z, .int .u64 u] 31)).cell? ⟨w.heap.size, 1, none⟩ = some (.int .u64 u) := by simp [go_sem]
  have HA := Lib.hid hA
  have Hgs := Lib.hid (show w.heap.size < (w.alloc (.cells #[.int .u64 z, .int .u64 u] 31)).heap.size from by simp)
  clear hA hc1 hc2
  generalize hW : w.alloc (.cells #[.int .u64 z, .int .u64 u] 31) = W at *
  have HW := Lib.hid hW; clear hW
  refine wp_region_below (by kernel_rfl) (by kernel_rfl) ?_
  repeat (go_big_quiet_step ((intro hw; first
    | rfl
    | (go_at_call 45; exact keep_below hw (hR.out _))
    | (have q1 := (hw.cell (p := ⟨g, k * 2, none⟩) (cell_lt q1)).trans q1
       have q2 := (hw.cell (p := ⟨g, k * 2 + 1, none⟩) (cell_lt q2)).trans q2
       have q3 := (hw.cell (p := ⟨w.heap.size, 0, none⟩) (cell_lt q3)).trans q3
       have q4 := (hw.cell (p := ⟨w.heap.size, 1, none⟩) (cell_lt q4)).trans q4
       go_simp
       first | rfl | exact ⟨rfl, hw⟩))))
  refine wpQuiet_nil ?_
  intro w3 hb3
  have q1 := (hb3.cell (p := ⟨g, k * 2, none⟩) (cell_lt q1)).trans q1
  have q2 := (hb3.cell (p := ⟨g, k * 2 + 1, none⟩) (cell_lt q2)).trans q2
  have q3 := (hb3.cell (p := ⟨w.heap.size, 0, none⟩) (cell_lt q3)).trans q3
  have q4 := (hb3.cell (p := ⟨w.heap.size, 1, none⟩) (cell_lt q4)).trans q4
  have Hw3 := Lib.hid (HA.out.trans (hb3.mono HA.out.size))
  clear hb3
  go_wp2_with fail
  have r1 : ∀ w', Below w3.heap.size w3 w' → w'.cell? ⟨g, k * 2, none⟩ = some (.int .u64 x) := fun w' h => (h.cell (p := ⟨g, k * 2, none⟩) (cell_lt q1)).trans q1
  have r3 : ∀ w', Below w3.heap.size w3 w' → w'.cell? ⟨w.heap.size, 1, none⟩ = some (.int .u64 u) := fun w' h => (h.cell (p := ⟨w.heap.size, 1, none⟩) (cell_lt q4)).trans q4
  have Hrd := Lib.hid (show ∀ w', Below w3.heap.size w3 w' → Rd w' 2 (some ⟨g, 0, none⟩) k (ivC l) from fun w' h => by
    have h1 := (Rd.own (own_take Ho.out k (by omega))).below (Hw3.out.trans (h.mono Hw3.out.size))
    rwa [ivC_append, List.take_left' (by rw [ivC_length, Hl.out])] at h1)
  have Hz3 := Lib.hid Hw3.out.size
  clear q1 q2 q3 q4
  go_region_held3 (fun w' => Below w3.heap.size w3 w') (first | assumption | exact (Below.refl _ _).drew | exact Below.alloc (by assumption) (Below.size (by assumption)) _) (first
    | (refine step_append_iv rfl (.tmp 20) (.tmp 24) rfl rfl w3.heap.size _ 0 [] rfl (own_empty (by first | exact heap_at_new _ _ _ (by simp) | exact heap_at_old _ _ _ _ (heap_at_new _ _ _ (by simp))) (by simp <;> omega)) _ k _ l rfl (Hrd.out _ (by assumption)) (by omega) (by simp <;> omega) ?_
       intro v1 w1 ho1 hg1
       have hS1 : Below w3.heap.size w3 w1 := by
         refine Below.grown ?_ hg1 ?_ ?_
         · assumption
         · simp <;> omega
         · intro j hj
           simp [Value.ownBlock, Act.eval] at hj
           omega)
    | (refine step_append_iv rfl (.tmp 25) (.tmp 35) rfl rfl w3.heap.size _ _ _ rfl (by first | exact ho1 | exact ho1.alloc _) _ 1 _ [(x, u)] rfl (by first | exact rd_block (heap_at_new _ _ _ (by simp)) rfl rfl | exact rd_grown hg1 (rd_block (by first | exact heap_at_new _ _ _ (by simp) | exact heap_at_old _ _ _ _ (heap_at_new _ _ _ (by simp))) rfl rfl) (by simp [Value.ownBlock, Act.eval]) (by simp <;> omega)) (by omega) (by have := hS1.size; simp <;> omega) ?_
       intro v2 w2 ho2 hg2
       have hS2 : Below w3.heap.size w3 w2 := by
         refine Below.grown ?_ hg2 ?_ (fun j hj => (ho1.lt j hj).1)
         · assumption
         · have := hS1.size
           simp <;> omega))
  all_goals
    go_wp2
    go_ret
    refine ⟨⟨v2, rfl, ?_⟩, Hb.out.trans (Hw3.out.trans (hS2.mono Hw3.out.size) |>.mono Hb.out.size)⟩
    have h := own_mono ho2 (Nat.le_trans Hb.out.size Hw3.out.size)
    rw [show (0 : Nat) + k + 1 = n by have := Hk.out; omega] at h
    simpa using h

end Go.Proofs.YtbiohohclnaocaaGreatDoor
