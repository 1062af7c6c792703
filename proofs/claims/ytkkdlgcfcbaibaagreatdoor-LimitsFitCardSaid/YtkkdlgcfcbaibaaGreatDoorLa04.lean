/- Walks and laws, joined: La04. -/
import Derived.Deep.AppendLies
import Derived.RegionTactic
import Derived.OwnWalk
import Derived.Deep.RegionHeld3
import Derived.Laws.Bits64
import Derived.BigRegion
import Derived.Deep.RegionWith
import Derived.Test.YtkkdlgcfcbaibaaGreatDoorLa02
import Derived.Test.YtkkdlgcfcbaibaaGreatDoorLa03
set_option linter.unusedVariables false
namespace Go.Proofs.YtkkdlgcfcbaibaaGreatDoor
section
open Go.RowKit
def Rd (w : World) (sz : Nat) (A : Option Addr) (n : Nat) (xs : List Value) : Prop :=
 xs.length = n * sz ∧ (0 < n → ∃ b o, A = some ⟨b, o, none⟩ ∧ ∀ j u, xs[j]? = some u → w.cell? ⟨b, o + j, none⟩ = some u)
theorem Rd.below {w w' : World} {sz n : Nat} {A : Option Addr} {xs : List Value} (h : Rd w sz A n xs) (hb : Below w.heap.size w w') : Rd w' sz A n xs :=
 ⟨h.1, fun hn => by
  obtain ⟨b, o, e, hc⟩ := h.2 hn
  refine ⟨b, o, e, fun j u hu => ?_⟩
  have := hc j u hu
  exact (hb.cell (p := ⟨b, o + j, none⟩) (cell_lt this)).trans this⟩
theorem Rd.own {w : World} {base sz n c : Nat} {e : TypeId} {A : Option Addr} {xs : List Value} (h : w.ownsRow base e sz (.slice A n c) n xs) : Rd w sz A n xs := by
 refine ⟨h.1, fun hn => ?_⟩
 obtain ⟨g, cap, hv, _, hlt⟩ := h.form hn
 have hA : A = some ⟨g, 0, none⟩ := by injection hv
 subst hA
 refine ⟨g, 0, rfl, fun j u hu => ?_⟩
 have := h.cells (g := g) rfl j u hu
 rwa [add_at] at this
theorem Rd.news {w : World} {sz n : Nat} {x : Addr} {xs : List Value} (h : Rd w sz (some x) n xs) (hz : 0 < sz) : ∀ j u, xs[j]? = some u → w.cell? (x.add j) = some u := by
 intro j u hu
 have hn : 0 < n := by
  refine Nat.pos_of_ne_zero fun h0 => ?_
  subst h0
  have : xs = [] := List.eq_nil_of_length_eq_zero (by simpa using h.1)
  rw [this] at hu; simp at hu
 obtain ⟨b, o, e, hc⟩ := h.2 hn
 cases e
 rw [add_at]
 exact hc j u hu
theorem run_append_none' {P : Program} (w : World) (base : Nat) (t ty e : TypeId) (i : TypeInfo) (size : Nat) (ht : P.underlying t = some (.slice e)) (hi : P.info? e = some i)
 (v : Value) (n : Nat) (xs : List Value) (hown : w.ownsRow base e size v n xs) (c : Nat) : (Builtin.append_ #[t, t] ty #[v, .slice none 0 c]).run P w = .ok v w := by
 rcases hown.2 with ⟨rfl, rfl⟩ | ⟨g, cap, cur, rfl, _, _, hnc, _⟩
 · simp [Builtin.append_, run_underlying ht, sizeOf, typeInfo, hi, Builtin.lenOf, Builtin.firstCells]
 · simp [Builtin.append_, run_underlying ht, sizeOf, typeInfo, hi, Builtin.lenOf, Builtin.firstCells, hnc, storeCells]
theorem run_append_rd {P : Program} {w : World} (base : Nat) (t ty e : TypeId) (z : Value) (size bytes : Nat) (ht : P.underlying t = some (.slice e))
 (hinfo : (P.info? e).map (fun i => (i.zero, i.size, i.bytes)) = some (some z, size, bytes)) (hzs : z.cells.size = size) (hsz : 0 < size)
 (v : Value) (n : Nat) (xs : List Value) (hown : w.ownsRow base e size v n xs) (A : Option Addr) (m c : Nat) (news : List Value) (hr : Rd w size A m news) (h1 : ∀ u ∈ news, u.oneCell' = true)
 (hlen : n + m ≤ maxLen) (hbytes : (n + m) * bytes ≤ 140737488355328) (hbase : base ≤ w.heap.size) :
 ∃ v' w', (Builtin.append_ #[t, t] ty #[v, .slice A m c]).run P w = .ok v' w' ∧ w'.ownsRow base e size v' (n + m) (xs ++ news) ∧ w.grownBy w' v.ownBlock := by
 obtain ⟨i, hi, hz, hs, hby⟩ := info_parts hinfo
 rcases A with _ | x
 · have hm : m = 0 := by
    rcases Nat.eq_zero_or_pos m with h0 | h0
    · exact h0
    · obtain ⟨b, o, h, _⟩ := hr.2 h0; cases h
   subst hm
   have hn : news = [] := List.eq_nil_of_length_eq_zero (by simpa using hr.1)
   subst hn
   exact ⟨v, w, run_append_none' w base t ty e i size ht hi v n xs hown c, by simpa using hown, World.grownBy.refl w _⟩
 · obtain ⟨v', w', hrun, ho, hg, _⟩ := run_append_own (P := P) w base t ty e i z size bytes ht hi hz hs hby hzs hsz v n xs hown x m c news hr.1 (hr.news hsz) h1 hlen hbytes hbase
   exact ⟨v', w', hrun, ho, hg⟩
theorem step_append_hr {P : Program} {w : World} {ops : Array Oper} {o : Oper} {a : Act} {K : Act → World → Prop} {Q : Exit → Act → World → Prop} {E : Prop} (hgd : o.guard = none) (s x : Operand) (t : TypeId)
 (ho : o.op = .call { callee := .builtin .append, args := #[s, x], argTypes := #[t, t] })
 (v u : Value) (hs : a.eval s = v) (hx : a.eval x = u) (v' : Value) (w' : World) (hrun : (Builtin.append_ #[t, t] o.type #[v, u]).run P w = .ok v' w')
 (h : K (a.put o.dst v') w') : if Region.wanted o (yielded ops a.tmps) = true then Oper.wp P o a w K Q else E := by
 have hw : Region.wanted o (yielded ops a.tmps) = true := by simp [Region.wanted, hgd]
 rw [if_pos hw]
 unfold Oper.wp
 simp [execOp, ho, resolve, invoke, builtin, hs, hx, hrun, Result.andThen]
 exact h
theorem own_take {w : World} {base size n c g : Nat} {e : TypeId} {xs : List Value} (h : w.ownsRow base e size (.slice (some ⟨g, 0, none⟩) n c) n xs) (k : Nat) (hk : k ≤ n) : w.ownsRow base e size (.slice (some ⟨g, 0, none⟩) k c) k (xs.take (k * size)) := by
 have h1 := h.1
 rcases h.2 with ⟨h', _⟩ | ⟨g', cap', cur, h', hb, hg, hnc, hcm, hcs, htake⟩
 · simp at h'
 · simp only [Value.slice.injEq, Option.some.injEq, Addr.mk.injEq, and_true, true_and] at h'
   obtain ⟨rfl, rfl⟩ := h'
   have hks : k * size ≤ n * size := Nat.mul_le_mul_right _ hk
   refine ⟨by rw [List.length_take, h1]; omega, .inr ⟨g, c, cur, rfl, hb, hg, by omega, hcm, hcs, ?_⟩⟩
   rw [← htake, List.take_take]
   congr 1
   omega
structure U64s (w : World) (a : Option Addr) (n cap : Nat) (l : List Nat) : Prop where
 len : l.length = n
 lt : ∀ x ∈ l, x < 18446744073709551616
 room : n ≤ cap
 most : cap ≤ 9223372036854775807
 nilc : a = none → cap = 0
 cells : 0 < n → ∃ b o, a = some ⟨b, o, none⟩ ∧ ∀ i, i < n → w.cell? ⟨b, o + i, none⟩ = some (.int .u64 ((nth l i : Nat) : Int))
def u64C (l : List Nat) : List Value := l.map fun x => Value.int .u64 ((x : Nat) : Int)
theorem u64C_append (a b : List Nat) : u64C (a ++ b) = u64C a ++ u64C b := by simp [u64C]
theorem u64C_length (a : List Nat) : (u64C a).length = a.length := by simp [u64C]
theorem u64C_get (l : List Nat) (i : Nat) (h : i < l.length) : (u64C l)[i]? = some (.int .u64 ((nth l i : Nat) : Int)) := by simp [u64C, nth, h]
theorem u64C_take (l : List Nat) (k : Nat) : (u64C l).take k = u64C (l.take k) := by simp [u64C, List.map_take]
theorem u64C_drop (l : List Nat) (k : Nat) : (u64C l).drop k = u64C (l.drop k) := by simp [u64C, List.map_drop]
theorem u64C_one (l : List Nat) : ∀ u ∈ u64C l, u.oneCell' = true := by
 intro u hu
 simp only [u64C, List.mem_map] at hu
 obtain ⟨x, _, rfl⟩ := hu
 rfl
theorem U64s.below {w w' : World} {a : Option Addr} {n cap : Nat} {l : List Nat} (h : U64s w a n cap l) (hb : Below w.heap.size w w') : U64s w' a n cap l := by
 refine ⟨h.len, h.lt, h.room, h.most, h.nilc, fun hn => ?_⟩
 obtain ⟨b, o, ha, hc⟩ := h.cells hn
 refine ⟨b, o, ha, fun i hi => ?_⟩
 have := hc i hi
 exact (hb.cell (p := ⟨b, o + i, none⟩) (cell_lt this)).trans this
theorem U64s.rd {w : World} {a : Option Addr} {n cap : Nat} {l : List Nat} (h : U64s w a n cap l) : Rd w 1 a n (u64C l) := by
 refine ⟨by rw [u64C_length, h.len]; omega, fun hn => ?_⟩
 obtain ⟨b, o, e, hc⟩ := h.cells hn
 refine ⟨b, o, e, fun j u hu => ?_⟩
 have hj : j < l.length := by
  rcases Nat.lt_or_ge j l.length with h' | h'
  · exact h'
  · rw [List.getElem?_eq_none (by rw [u64C_length]; exact h')] at hu; cases hu
 rw [u64C_get l j hj] at hu
 cases hu
 exact hc j (by rw [← h.len]; exact hj)
theorem u64s_own {w : World} {base n : Nat} {T : TypeId} {v : Value} {l : List Nat} (h : w.ownsRow base T 1 v n (u64C l)) (hl : ∀ x ∈ l, x < 18446744073709551616) : ∃ a cap, v = .slice a n cap ∧ U64s w a n cap l := by
 have hlen : l.length = n := by have := h.1; rw [u64C_length] at this; omega
 rcases h.2 with ⟨rfl, rfl⟩ | ⟨g, cap, cur, rfl, hg, hh, hnc, hcm, _⟩
 · exact ⟨none, 0, rfl, hlen, hl, by omega, by omega, fun _ => rfl, fun h => by omega⟩
 · refine ⟨_, _, rfl, hlen, hl, hnc, by unfold maxLen at hcm; omega, (by intro h; cases h), fun hn => ⟨g, 0, rfl, fun i hi => ?_⟩⟩
   have hc := h.cells (g := g) rfl i (.int .u64 ((nth l i : Nat) : Int)) (u64C_get l i (by omega))
   rw [add_at] at hc
   exact hc
theorem Ivs.rd {w : World} {a : Option Addr} {n cap : Nat} {l : List Iv} (h : Ivs w a n cap l) : Rd w 2 a n (ivC l) := by
 refine ⟨by rw [ivC_length, h.len], fun hn => ?_⟩
 obtain ⟨b, o, e, hc⟩ := h.cells hn
 refine ⟨b, o, e, fun j u hu => ?_⟩
 have hj : j < l.length * 2 := by
  rcases Nat.lt_or_ge j (l.length * 2) with h' | h'
  · exact h'
  · rw [List.getElem?_eq_none (by rw [ivC_length]; exact h')] at hu; cases hu
 have hi : j / 2 < l.length := by omega
 obtain ⟨e1, e2⟩ := ivC_get l (j / 2) hi
 obtain ⟨c1, c2⟩ := hc (j / 2) (by rw [← h.len]; exact hi)
 rcases Nat.mod_two_eq_zero_or_one j with hm | hm
 · rw [show j / 2 * 2 = j by omega] at e1 c1
   rw [e1] at hu; cases hu; exact c1
 · rw [show j / 2 * 2 + 1 = j by omega] at e2
   rw [show o + j / 2 * 2 + 1 = o + j by omega] at c2
   rw [e2] at hu; cases hu; exact c2
theorem Tryz.info_u64 : (Tryz.prog.info? 24).map (fun i => (i.zero, i.size, i.bytes)) = some (some (.int .u64 0), 1, 8) := by kernel_rfl
theorem Tryz.info_iv : (Tryz.prog.info? 73).map (fun i => (i.zero, i.size, i.bytes)) = some (some (.agg #[.int .u64 0, .int .u64 0]), 2, 16) := by kernel_rfl
theorem run_append_u64 {w : World} (base : Nat) (v : Value) (n : Nat) (xs : List Nat) (hown : w.ownsRow base 24 1 v n (u64C xs)) (A : Option Addr) (m c : Nat) (l : List Nat) (hr : Rd w 1 A m (u64C l)) (hb : n + m ≤ 1000000) (hbase : base ≤ w.heap.size) :
 ∃ v' w', (Builtin.append_ #[151, 151] 151 #[v, .slice A m c]).run Tryz.prog w = .ok v' w' ∧ w'.ownsRow base 24 1 v' (n + m) (u64C (xs ++ l)) ∧ w.grownBy w' v.ownBlock := by
 rw [u64C_append]
 exact run_append_rd base _ _ _ _ 1 8 Tryz.underlying151 Tryz.info_u64 rfl (by omega) v n _ hown A m c _ hr (u64C_one l) (by unfold maxLen; omega) (by omega) hbase
theorem run_append_iv {w : World} (base : Nat) (v : Value) (n : Nat) (xs : List Iv) (hown : w.ownsRow base 73 2 v n (ivC xs)) (A : Option Addr) (m c : Nat) (l : List Iv) (hr : Rd w 2 A m (ivC l)) (hb : n + m ≤ 1000000) (hbase : base ≤ w.heap.size) :
 ∃ v' w', (Builtin.append_ #[28, 28] 28 #[v, .slice A m c]).run Tryz.prog w = .ok v' w' ∧ w'.ownsRow base 73 2 v' (n + m) (ivC (xs ++ l)) ∧ w.grownBy w' v.ownBlock := by
 rw [ivC_append]
 exact run_append_rd base _ _ _ _ 2 16 Tryz.underlying28 Tryz.info_iv rfl (by omega) v n _ hown A m c _ hr (ivC_one l) (by unfold maxLen; omega) (by omega) hbase
theorem own_empty {w : World} {base g sz : Nat} {e : TypeId} (h : w.heap[g]? = some (.cells #[] e (0, 0))) (hb : base ≤ g) : w.ownsRow base e sz (.slice (some ⟨g, 0, none⟩) 0 0) 0 [] :=
 ⟨by simp, .inr ⟨g, 0, #[], rfl, hb, h, Nat.le_refl _, by unfold maxLen; omega, by simp, by simp⟩⟩
theorem rd_block {w : World} {g sz n : Nat} {e : TypeId} {C : Array Value} {fr : Nat × Nat} {xs : List Value} (h : w.heap[g]? = some (.cells C e fr)) (hC : C = xs.toArray) (hx : xs.length = n * sz) : Rd w sz (some ⟨g, 0, none⟩) n xs := by
 subst hC
 refine ⟨hx, fun _ => ⟨g, 0, rfl, fun j u hu => ?_⟩⟩
 simp only [World.cell?, h]
 simpa using hu
theorem step_append_iv {w : World} {ops : Array Oper} {o : Oper} {a : Act} {K : Act → World → Prop} {Q : Exit → Act → World → Prop} {E : Prop} (hgd : o.guard = none) (s x : Operand)
 (ho : o.op = .call { callee := .builtin .append, args := #[s, x], argTypes := #[28, 28] }) (hty : o.type = 28)
 (base : Nat) (v : Value) (n : Nat) (xs : List Iv) (hs : a.eval s = v) (hown : w.ownsRow base 73 2 v n (ivC xs)) (A : Option Addr) (m c : Nat) (l : List Iv) (hx : a.eval x = .slice A m c) (hr : Rd w 2 A m (ivC l)) (hb : n + m ≤ 1000000) (hbase : base ≤ w.heap.size)
 (h : ∀ v' w', w'.ownsRow base 73 2 v' (n + m) (ivC (xs ++ l)) → w.grownBy w' v.ownBlock → K (a.put o.dst v') w') :
 if Region.wanted o (yielded ops a.tmps) = true then Oper.wp Tryz.prog o a w K Q else E := by
 obtain ⟨v', w', hrun, h1, h2⟩ := run_append_iv base v n xs hown A m c l hr hb hbase
 exact step_append_hr hgd s x _ ho _ _ hs hx v' w' (by rw [hty]; exact hrun) (h v' w' h1 h2)
theorem heap_at_new (w : World) (o : Obj) (g : Nat) (h : g = w.heap.size) : (w.alloc o).heap[g]? = some o := by subst h; exact heap_alloc_new w o
theorem heap_at_old (w : World) (o v : Obj) (g : Nat) (h : w.heap[g]? = some v) : (w.alloc o).heap[g]? = some v := (Below.heap_alloc w o g (by
 rcases Nat.lt_or_ge g w.heap.size with h' | h'
 · exact h'
 · rw [Array.getElem?_eq_none h'] at h; cases h)).trans h
theorem own_mono {w : World} {base b size n : Nat} {e : TypeId} {v : Value} {xs : List Value} (h : w.ownsRow base e size v n xs) (hb : b ≤ base) : w.ownsRow b e size v n xs :=
 ⟨h.1, h.2.imp id fun ⟨g, cap, cur, h1, h2, r⟩ => ⟨g, cap, cur, h1, Nat.le_trans hb h2, r⟩⟩
theorem rd_grown {w w' : World} {row : Option Nat} {sz g n : Nat} {xs : List Value} (hg : w.grownBy w' row) (h : Rd w sz (some ⟨g, 0, none⟩) n xs) (hr : some g ≠ row) (hlt : g < w.heap.size) : Rd w' sz (some ⟨g, 0, none⟩) n xs :=
 ⟨h.1, fun hn => by
  obtain ⟨b, o, e, hc⟩ := h.2 hn
  cases e
  refine ⟨_, _, rfl, fun j u hu => ?_⟩
  rw [← hc j u hu]
  exact World.cell?_of_block (hg.block _ hlt hr)⟩
set_option maxRecDepth 20000 in
set_option maxHeartbeats 2000000 in
theorem refPut_touch (g n k cap : Nat) (l : List Iv) (t s : Iv) (w0 w : World) (hb : Below w0.heap.size w0 w) (hown : w.ownsRow w0.heap.size 73 2 (.slice (some ⟨g, 0, none⟩) n cap) n (ivC (l ++ [t]))) (hk : n = k + 1) (hn : n ≤ 100000)
 (ht : t.1 < 18446744073709551616 ∧ t.2 < 18446744073709551616) (hs : s.1 < 18446744073709551616 ∧ s.2 < 18446744073709551616) (hts : relR t s = 1) :
 Calls Tryz.prog 185 #[.slice (some ⟨g, 0, none⟩) n cap, ivV s] w fun e w' => (∃ v', e = .returned v' ∧ w'.ownsRow w0.heap.size 73 2 v' n (ivC (l ++ [(t.1, s.2)]))) ∧ Below w0.heap.size w0 w' := by
 have hl : l.length = k := by have := hown.1; rw [ivC_length] at this; simp at this; omega
 have hR := Lib.hid (fun w => refRelate_any t s w ht hs)
 rw [hts] at hR
 have hcap : n ≤ cap := by
  rcases hown.2 with ⟨h', _⟩ | ⟨g', cap', cur, h', _, _, hnc, _⟩
  · simp at h'
  · simp only [Value.slice.injEq, Option.some.injEq, Addr.mk.injEq, and_true, true_and] at h'
    obtain ⟨rfl, rfl⟩ := h'
    exact hnc
 obtain ⟨e1, e2⟩ := ivC_get (l ++ [t]) k (by simp; omega)
 have hnt : nthI (l ++ [t]) k = t := by rw [nthI_get (by simp; omega), List.getElem_append_right (by omega)]; simp
 rw [hnt] at e1 e2
 have hc1 := (hown.cellAt (k * 2) (by omega)).trans e1
 have hc2 := (hown.cellAt (k * 2 + 1) (by omega)).trans e2
 have Ho := Lib.hid hown; have Hb := Lib.hid hb; have Hl := Lib.hid hl
 have hsub : IntKind.i64.wrap ((n : Int) - 1) = (k : Int) := by rw [IntKind.wrap_i64]; omega
 have hg0 : decide (0 < (n : Int)) = true := by rw [decide_eq_true_iff]; omega
 have hn0 : 0 < n := by omega
 have h01 : (k : Int) < (n : Int) := by omega
 have h02 : k ≤ cap := by omega
 have Hk := Lib.hid hk
 have hgl := cell_lt hc1
 simp only at hgl
 clear ht hs hts hown hb hl hnt e1 e2 hk hcap
 obtain ⟨x, y⟩ := t
 obtain ⟨z, u⟩ := s
 go_enter Tryz.func185, Tryz.ntmps185
 go_wp2_with fail
 have hA : Below w.heap.size w (w.alloc (.cells #[.int .u64 z, .int .u64 u] 73)) := (Below.refl _ _).alloc (Nat.le_refl _) _
 have q1 := (hA.cell (p := ⟨g, k * 2, none⟩) hgl).trans hc1
 have q2 := (hA.cell (p := ⟨g, k * 2 + 1, none⟩) hgl).trans hc2
 have q3 : (w.alloc (.cells #[.int .u64 z, .int .u64 u] 73)).cell? ⟨w.heap.size, 0, none⟩ = some (.int .u64 z) := by simp [go_sem]
 have q4 : (w.alloc (.cells #[.int .u64 z, .int .u64 u] 73)).cell? ⟨w.heap.size, 1, none⟩ = some (.int .u64 u) := by simp [go_sem]
 have HA := Lib.hid hA
 have Hgs := Lib.hid (show w.heap.size < (w.alloc (.cells #[.int .u64 z, .int .u64 u] 73)).heap.size from by simp)
 clear hA hc1 hc2
 generalize hW : w.alloc (.cells #[.int .u64 z, .int .u64 u] 73) = W at *
 have HW := Lib.hid hW; clear hW
 refine wp_region_below (by kernel_rfl) (by kernel_rfl) ?_
 repeat (go_big_quiet_step ((intro hw; first
  | rfl
  | (go_at_call 99; exact keep_below hw (hR.out _))
  | (have q1 := (hw.cell (p := ⟨g, k * 2, none⟩) (cell_lt q1)).trans q1
     have q2 := (hw.cell (p := ⟨g, k * 2 + 1, none⟩) (cell_lt q2)).trans q2
     have q3 := (hw.cell (p := ⟨w.heap.size, 0, none⟩) (cell_lt q3)).trans q3
     have q4 := (hw.cell (p := ⟨w.heap.size, 1, none⟩) (cell_lt q4)).trans q4
     go_simp
     first | rfl | exact ⟨rfl, hw⟩))))
 refine wpQuiet_nil ?_
 intro w3 hb3
 have q1 := (hb3.cell (p := ⟨g, k * 2, none⟩) (cell_lt q1)).trans q1
 have q2 := (hb3.cell (p := ⟨g, k * 2 + 1, none⟩) (cell_lt q2)).trans q2
 have q3 := (hb3.cell (p := ⟨w.heap.size, 0, none⟩) (cell_lt q3)).trans q3
 have q4 := (hb3.cell (p := ⟨w.heap.size, 1, none⟩) (cell_lt q4)).trans q4
 have Hw3 := Lib.hid (HA.out.trans (hb3.mono HA.out.size))
 clear hb3
 go_wp2_with fail
 have r1 : ∀ w', Below w3.heap.size w3 w' → w'.cell? ⟨g, k * 2, none⟩ = some (.int .u64 x) := fun w' h => (h.cell (p := ⟨g, k * 2, none⟩) (cell_lt q1)).trans q1
 have r3 : ∀ w', Below w3.heap.size w3 w' → w'.cell? ⟨w.heap.size, 1, none⟩ = some (.int .u64 u) := fun w' h => (h.cell (p := ⟨w.heap.size, 1, none⟩) (cell_lt q4)).trans q4
 have Hrd := Lib.hid (show ∀ w', Below w3.heap.size w3 w' → Rd w' 2 (some ⟨g, 0, none⟩) k (ivC l) from fun w' h => by
  have h1 := (Rd.own (own_take Ho.out k (by omega))).below (Hw3.out.trans (h.mono Hw3.out.size))
  rwa [ivC_append, List.take_left' (by rw [ivC_length, Hl.out])] at h1)
 have Hz3 := Lib.hid Hw3.out.size
 clear q1 q2 q3 q4
 go_region_held3 (fun w' => Below w3.heap.size w3 w') (first | assumption | exact (Below.refl _ _).drew | exact Below.alloc (by assumption) (Below.size (by assumption)) _) (first
  | (refine step_append_iv rfl (.tmp 20) (.tmp 24) rfl rfl w3.heap.size _ 0 [] rfl (own_empty (by first | exact heap_at_new _ _ _ (by simp) | exact heap_at_old _ _ _ _ (heap_at_new _ _ _ (by simp))) (by simp <;> omega)) _ k _ l rfl (Hrd.out _ (by assumption)) (by omega) (by simp <;> omega) ?_
     intro v1 w1 ho1 hg1
     have hS1 : Below w3.heap.size w3 w1 := by
      refine Below.grown ?_ hg1 ?_ ?_
      · assumption
      · simp <;> omega
      · intro j hj
        simp [Value.ownBlock, Act.eval] at hj
        omega)
  | (refine step_append_iv rfl (.tmp 25) (.tmp 35) rfl rfl w3.heap.size _ _ _ rfl (by first | exact ho1 | exact ho1.alloc _) _ 1 _ [(x, u)] rfl (by first | exact rd_block (heap_at_new _ _ _ (by simp)) rfl rfl | exact rd_grown hg1 (rd_block (by first | exact heap_at_new _ _ _ (by simp) | exact heap_at_old _ _ _ _ (heap_at_new _ _ _ (by simp))) rfl rfl) (by simp [Value.ownBlock, Act.eval]) (by simp <;> omega)) (by omega) (by have := hS1.size; simp <;> omega) ?_
     intro v2 w2 ho2 hg2
     have hS2 : Below w3.heap.size w3 w2 := by
      refine Below.grown ?_ hg2 ?_ (fun j hj => (ho1.lt j hj).1)
      · assumption
      · have := hS1.size
        simp <;> omega))
 all_goals
  go_wp2
  go_ret
  refine ⟨⟨v2, rfl, ?_⟩, Hb.out.trans (Hw3.out.trans (hS2.mono Hw3.out.size) |>.mono Hb.out.size)⟩
  have h := own_mono ho2 (Nat.le_trans Hb.out.size Hw3.out.size)
  rw [show (0 : Nat) + k + 1 = n by have := Hk.out; omega] at h
  simpa using h
set_option maxHeartbeats 2000000 in
theorem refPut_nil (a : Option Addr) (cap : Nat) (s : Iv) (w0 w : World) (hb : Below w0.heap.size w0 w) (hown : w.ownsRow w0.heap.size 73 2 (.slice a 0 cap) 0 []) :
 Calls Tryz.prog 185 #[.slice a 0 cap, ivV s] w fun e w' => (∃ v', e = .returned v' ∧ w'.ownsRow w0.heap.size 73 2 v' 1 (ivC [s])) ∧ Below w0.heap.size w0 w' := by
 have Ho := Lib.hid hown; have Hb := Lib.hid hb
 clear hown hb
 obtain ⟨z, u⟩ := s
 go_enter Tryz.func185, Tryz.ntmps185
 go_wp2_with fail
 have hA : Below w.heap.size w (w.alloc (.cells #[.int .u64 z, .int .u64 u] 73)) := (Below.refl _ _).alloc (Nat.le_refl _) _
 have q3 : (w.alloc (.cells #[.int .u64 z, .int .u64 u] 73)).cell? ⟨w.heap.size, 0, none⟩ = some (.int .u64 z) := by simp [go_sem]
 have q4 : (w.alloc (.cells #[.int .u64 z, .int .u64 u] 73)).cell? ⟨w.heap.size, 1, none⟩ = some (.int .u64 u) := by simp [go_sem]
 have HA := Lib.hid hA
 clear hA
 generalize hW : w.alloc (.cells #[.int .u64 z, .int .u64 u] 73) = W at *
 have HW := Lib.hid hW; clear hW
 refine wp_region_below (by kernel_rfl) (by kernel_rfl) ?_
 repeat (go_big_quiet_step ((intro hw; rfl)))
 refine wpQuiet_nil ?_
 intro w3 hb3
 have q3 := (hb3.cell (p := ⟨w.heap.size, 0, none⟩) (cell_lt q3)).trans q3
 have q4 := (hb3.cell (p := ⟨w.heap.size, 1, none⟩) (cell_lt q4)).trans q4
 have Hw3 := Lib.hid (HA.out.trans (hb3.mono HA.out.size))
 clear hb3
 have Hz := Lib.hid (Nat.le_trans Hb.out.size Hw3.out.size)
 obtain ⟨v', w', hr, ho, hg⟩ := run_append_iv w0.heap.size (.slice a 0 cap) 0 [] ((own_below Ho.out Hw3.out).alloc (.cells #[.int .u64 z, .int .u64 u] 73)) (some ⟨w3.heap.size, 0, none⟩) 1 1 [(z, u)] (rd_block (heap_at_new _ _ _ rfl) rfl rfl) (by omega) (by have := Hz.out; simp; omega)
 have Ho' := Lib.hid ho; clear ho
 have Hb' := Lib.hid ((Hb.out.trans (Hw3.out.mono Hb.out.size)).alloc Hz.out (.cells #[.int .u64 z, .int .u64 u] 73) |>.grown hg (by have := Hz.out; simp; omega) (fun k hk => (Ho.out.lt k hk).1))
 clear hg
 go_wp2_with (at_builtin; refine wpList_append_hr _ _ 28 rfl rfl _ _ rfl rfl _ _ hr ?_)
 go_ret
 exact ⟨⟨v', rfl, by simpa using Ho'.out⟩, Hb'.out⟩
set_option maxRecDepth 20000 in
set_option maxHeartbeats 2000000 in
theorem refPut_apart (g n k cap : Nat) (l : List Iv) (t s : Iv) (w0 w : World) (hb : Below w0.heap.size w0 w) (hown : w.ownsRow w0.heap.size 73 2 (.slice (some ⟨g, 0, none⟩) n cap) n (ivC (l ++ [t]))) (hk : n = k + 1) (hn : n ≤ 100000)
 (ht : t.1 < 18446744073709551616 ∧ t.2 < 18446744073709551616) (hs : s.1 < 18446744073709551616 ∧ s.2 < 18446744073709551616) (hts : relR t s ≠ 1) :
 Calls Tryz.prog 185 #[.slice (some ⟨g, 0, none⟩) n cap, ivV s] w fun e w' => (∃ v', e = .returned v' ∧ w'.ownsRow w0.heap.size 73 2 v' (n + 1) (ivC (l ++ [t] ++ [s]))) ∧ Below w0.heap.size w0 w' := by
 have hl : l.length = k := by have := hown.1; rw [ivC_length] at this; simp at this; omega
 have hR := Lib.hid (fun w => refRelate_any t s w ht hs)
 have hne : (((relR t s : Nat) : Int) == 1) = false := by rw [beq_eq_false_iff_ne]; omega
 generalize relR t s = r at *
 obtain ⟨e1, e2⟩ := ivC_get (l ++ [t]) k (by simp; omega)
 have hnt : nthI (l ++ [t]) k = t := by rw [nthI_get (by simp; omega), List.getElem_append_right (by omega)]; simp
 rw [hnt] at e1 e2
 have hc1 := (hown.cellAt (k * 2) (by omega)).trans e1
 have hc2 := (hown.cellAt (k * 2 + 1) (by omega)).trans e2
 have Ho := Lib.hid hown; have Hb := Lib.hid hb; have Hl := Lib.hid hl
 have hsub : IntKind.i64.wrap ((n : Int) - 1) = (k : Int) := by rw [IntKind.wrap_i64]; omega
 have hg0 : decide (0 < (n : Int)) = true := by rw [decide_eq_true_iff]; omega
 have hn0 : 0 < n := by omega
 have h01 : (k : Int) < (n : Int) := by omega
 have Hk := Lib.hid hk
 have hgl := cell_lt hc1
 simp only at hgl
 clear ht hs hts hown hb hl hnt e1 e2 hk
 obtain ⟨x, y⟩ := t
 obtain ⟨z, u⟩ := s
 go_enter Tryz.func185, Tryz.ntmps185
 go_wp2_with fail
 have hA : Below w.heap.size w (w.alloc (.cells #[.int .u64 z, .int .u64 u] 73)) := (Below.refl _ _).alloc (Nat.le_refl _) _
 have q1 := (hA.cell (p := ⟨g, k * 2, none⟩) hgl).trans hc1
 have q2 := (hA.cell (p := ⟨g, k * 2 + 1, none⟩) hgl).trans hc2
 have q3 : (w.alloc (.cells #[.int .u64 z, .int .u64 u] 73)).cell? ⟨w.heap.size, 0, none⟩ = some (.int .u64 z) := by simp [go_sem]
 have q4 : (w.alloc (.cells #[.int .u64 z, .int .u64 u] 73)).cell? ⟨w.heap.size, 1, none⟩ = some (.int .u64 u) := by simp [go_sem]
 have HA := Lib.hid hA
 clear hA hc1 hc2
 generalize hW : w.alloc (.cells #[.int .u64 z, .int .u64 u] 73) = W at *
 have HW := Lib.hid hW; clear hW
 refine wp_region_below (by kernel_rfl) (by kernel_rfl) ?_
 repeat (go_big_quiet_step ((intro hw; first
  | rfl
  | (go_at_call 99; exact keep_below hw (hR.out _))
  | (have q1 := (hw.cell (p := ⟨g, k * 2, none⟩) (cell_lt q1)).trans q1
     have q2 := (hw.cell (p := ⟨g, k * 2 + 1, none⟩) (cell_lt q2)).trans q2
     have q3 := (hw.cell (p := ⟨w.heap.size, 0, none⟩) (cell_lt q3)).trans q3
     have q4 := (hw.cell (p := ⟨w.heap.size, 1, none⟩) (cell_lt q4)).trans q4
     go_simp
     first | rfl | exact ⟨rfl, hw⟩))))
 refine wpQuiet_nil ?_
 intro w3 hb3
 have q3 := (hb3.cell (p := ⟨w.heap.size, 0, none⟩) (cell_lt q3)).trans q3
 have q4 := (hb3.cell (p := ⟨w.heap.size, 1, none⟩) (cell_lt q4)).trans q4
 have Hw3 := Lib.hid (HA.out.trans (hb3.mono HA.out.size))
 clear hb3 q1 q2
 have Hz := Lib.hid (Nat.le_trans Hb.out.size Hw3.out.size)
 obtain ⟨v', w', hr, ho, hg⟩ := run_append_iv w0.heap.size (.slice (some ⟨g, 0, none⟩) n cap) n (l ++ [(x, y)]) ((own_below Ho.out Hw3.out).alloc (.cells #[.int .u64 z, .int .u64 u] 73)) (some ⟨w3.heap.size, 0, none⟩) 1 1 [(z, u)] (rd_block (heap_at_new _ _ _ rfl) rfl rfl) (by omega) (by have := Hz.out; simp; omega)
 have Ho' := Lib.hid ho; clear ho
 have Hb' := Lib.hid ((Hb.out.trans (Hw3.out.mono Hb.out.size)).alloc Hz.out (.cells #[.int .u64 z, .int .u64 u] 73) |>.grown hg (by have := Hz.out; simp; omega) (fun k hk => (Ho.out.lt k hk).1))
 clear hg
 go_wp2_with (at_builtin; refine wpList_append_hr _ _ 28 rfl rfl _ _ rfl rfl _ _ hr ?_)
 go_ret
 exact ⟨⟨v', rfl, Ho'.out⟩, Hb'.out⟩
theorem relR_one {a b : Iv} : relR a b = 1 ↔ a.2 + 1 = b.1 := by
 unfold relR
 repeat' split
 all_goals omega
theorem refPut_any (v : Value) (n : Nat) (l : List Iv) (s : Iv) (w0 w : World) (hb : Below w0.heap.size w0 w) (hown : w.ownsRow w0.heap.size 73 2 v n (ivC l)) (hn : n ≤ 100000)
 (hl : ∀ t ∈ l, t.1 < 18446744073709551616 ∧ t.2 < 18446744073709551616) (hs : s.1 < 18446744073709551616 ∧ s.2 < 18446744073709551616) :
 Calls Tryz.prog 185 #[v, ivV s] w fun e w' => (∃ v', e = .returned v' ∧ w'.ownsRow w0.heap.size 73 2 v' (putL l s).length (ivC (putL l s))) ∧ Below w0.heap.size w0 w' := by
 have hln : l.length = n := by have := hown.1; rw [ivC_length] at this; omega
 rcases nil_or_snoc l with rfl | ⟨l, t, rfl⟩
 · obtain rfl : n = 0 := by simpa using hln.symm
   obtain ⟨a, cap, rfl, -⟩ := ivs_own hown (by simp)
   exact refPut_nil a cap s w0 w hb hown
 · rw [List.length_append, List.length_singleton] at hln
   obtain ⟨g, cap, rfl, -⟩ := hown.form (by omega)
   rw [putL_snoc]
   by_cases h : t.2 + 1 = s.1
   · rw [if_pos h]
     refine (refPut_touch g n l.length cap l t s w0 w hb hown (by omega) hn (hl t (by simp)) hs (relR_one.2 h)).mono ?_
     rintro e w' ⟨⟨v', h1, h2⟩, h3⟩
     exact ⟨⟨v', h1, by rw [List.length_append, List.length_singleton, hln]; exact h2⟩, h3⟩
   · rw [if_neg h]
     refine (refPut_apart g n l.length cap l t s w0 w hb hown (by omega) hn (hl t (by simp)) hs (fun e => h (relR_one.1 e))).mono ?_
     rintro e w' ⟨⟨v', h1, h2⟩, h3⟩
     exact ⟨⟨v', h1, by rw [List.length_append, List.length_append, List.length_singleton, List.length_singleton, hln]; exact h2⟩, h3⟩
theorem refMax_any (w : World) : Calls Tryz.prog 205 #[] w fun e w' => e = .returned (.int .u64 18446744073709551615) ∧ w = w' := by
 go_enter Tryz.func205, Tryz.ntmps205
 go_wp2
 go_ret
 exact ⟨rfl, rfl⟩
def pieceOf (l : List Nat) (i : Nat) : Iv := if i + 1 < l.length then (nth l i, nth l (i + 1) - 1) else (nth l i, 18446744073709551615)
set_option maxHeartbeats 1000000 in
theorem refPiece_any (a : Option Addr) (n cap i : Nat) (l : List Nat) (w : World) (hU : U64s w a n cap l) (hi : i < n) (hn : n ≤ 1000000) (hp : i + 1 < n → 0 < nth l (i + 1)) :
 Calls Tryz.prog 179 #[.slice a n cap, .int .i64 i] w fun e w' => e = .returned (ivV (pieceOf l i)) ∧ Below w.heap.size w w' := by
 obtain ⟨bb, oo, rfl, hcell⟩ := hU.cells (by omega)
 have hc1 := hcell i hi
 unfold pieceOf
 rw [hU.len]
 have hl1 := cell_lt hc1
 simp only at hl1
 by_cases h : i + 1 < n
 · have hc2 := hcell (i + 1) h
   have hx := hU.lt (nth l (i + 1)) (by simp [nth, hU.len, h])
   have hp' := hp h
   rw [if_pos h]
   have hw : IntKind.u64.wrap (((nth l (i + 1) : Nat) : Int) - 1) = ((nth l (i + 1) - 1 : Nat) : Int) := by rw [IntKind.wrap_u64]; omega
   clear hp hcell hU
   generalize nth l i = x at *
   generalize nth l (i + 1) = y at *
   have hl2 := cell_lt hc2
   simp only at hl2
   clear hx hp'
   generalize y - 1 = z at *
   have hd : decide ((i : Int) + 1 < (n : Int)) = true := by rw [decide_eq_true_iff]; omega
   have h1 : (i : Int) < (n : Int) := by omega
   have h2 : (i : Int) + 1 < (n : Int) := by omega
   have h3 : ((i : Int) + 1).toNat = i + 1 := by omega
   have hs : IntKind.i64.wrap ((i : Int) + 1) = (i : Int) + 1 := by rw [IntKind.wrap_i64]; omega
   go_enter Tryz.func179, Tryz.ntmps179
   go_wp2
   go_region
   all_goals
    go_wp2
    refine bodyPost_ret (v := ivV (x, z)) (by simp [results, Tryz.results179, go_sem]) rfl ⟨rfl, ?_⟩
    exact ((Below.refl _ _).alloc (Nat.le_refl _) _).drew
 · rw [if_neg h]
   clear hp hcell hU
   generalize nth l i = x at *
   have hd : decide ((i : Int) + 1 < (n : Int)) = false := by rw [decide_eq_false_iff_not]; omega
   have h1 : (i : Int) < (n : Int) := by omega
   have hs : IntKind.i64.wrap ((i : Int) + 1) = (i : Int) + 1 := by rw [IntKind.wrap_i64]; omega
   go_enter Tryz.func179, Tryz.ntmps179
   go_wp2
   go_region_with (go_at_call 205; refine (refMax_any _).mono ?_; rintro e w1 ⟨rfl, rfl⟩)
   all_goals
    go_wp2
    refine bodyPost_ret (v := ivV (x, 18446744073709551615)) (by simp [results, Tryz.results179, go_sem]) rfl ⟨rfl, ?_⟩
    exact ((Below.refl _ _).alloc (Nat.le_refl _) _).drew
end
end Go.Proofs.YtkkdlgcfcbaibaaGreatDoor
