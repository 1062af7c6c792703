/- Walks and laws, joined: La05. -/
import Derived.Deep.RegionLaw
import Derived.Test.YtkkdlgcfcbaibaaGreatDoorLa03
import Derived.Test.YtkkdlgcfcbaibaaGreatDoorLa04
set_option linter.unusedVariables false
namespace Go.Proofs.YtkkdlgcfcbaibaaGreatDoor
section
open Go.RowKit
structure Rls (w : World) (a : Option Addr) (n cap : Nat) (ls : List (List Iv)) : Prop where
 len : ls.length = n
 room : n ≤ cap
 most : cap ≤ 9223372036854775807
 nilc : a = none → cap = 0
 cells : 0 < n → ∃ b o, a = some ⟨b, o, none⟩ ∧ ∀ i, i < n → ∃ A c, w.cell? ⟨b, o + i, none⟩ = some (.slice A (ls.getD i []).length c) ∧ Ivs w A (ls.getD i []).length c (ls.getD i [])
theorem Rls.below {w w' : World} {a : Option Addr} {n cap : Nat} {ls : List (List Iv)} (h : Rls w a n cap ls) (hb : Below w.heap.size w w') : Rls w' a n cap ls := by
 refine ⟨h.len, h.room, h.most, h.nilc, fun hn => ?_⟩
 obtain ⟨b, o, ha, hc⟩ := h.cells hn
 refine ⟨b, o, ha, fun i hi => ?_⟩
 obtain ⟨A, c, h1, h2⟩ := hc i hi
 exact ⟨A, c, (hb.cell (p := ⟨b, o + i, none⟩) (cell_lt h1)).trans h1, h2.below hb⟩
theorem take_getD {α : Type} (l : List α) (d : α) (k : Nat) (h : k < l.length) : l.take (k + 1) = l.take k ++ [l.getD k d] := by
 rw [List.take_succ_eq_append_getElem h]
 simp [h]
theorem bnds_snoc (l : List Iv) (s : Iv) : bnds (l ++ [s]) = bnds l ++ bnd s := by simp [bnds]
theorem bnd_lt {s : Iv} (h : s.1 < 18446744073709551616 ∧ s.2 < 18446744073709551616) : ∀ x ∈ bnd s, x < 18446744073709551616 := by
 intro x hx
 unfold bnd at hx
 split at hx <;> simp at hx <;> omega
theorem sub_len {α : Type} (f : α → List Nat) (l : List α) (k : Nat) : ((l.take k).flatMap f).length ≤ (l.flatMap f).length := by
 have : l = l.take k ++ l.drop k := (List.take_append_drop k l).symm
 rw [show l.flatMap f = (l.take k ++ l.drop k).flatMap f by rw [← this], List.flatMap_append, List.length_append]
 omega
theorem Rls.all_lt {w : World} {a : Option Addr} {n cap : Nat} {ls : List (List Iv)} (h : Rls w a n cap ls) : ∀ x ∈ allL ls, x < 18446744073709551616 := by
 intro x hx
 simp only [allL, List.mem_cons, List.mem_flatMap] at hx
 rcases hx with rfl | ⟨l, hl, hx⟩
 · omega
 · obtain ⟨i, hi, rfl⟩ := List.getElem_of_mem hl
   rw [h.len] at hi
   obtain ⟨b, o, _, hc⟩ := h.cells (by omega)
   obtain ⟨A, c, _, hI⟩ := hc i hi
   have e : ls.getD i [] = ls[i] := by simp [show i < ls.length by rw [h.len]; exact hi]
   rw [e] at hI
   obtain ⟨s, hs, hx⟩ := List.mem_flatMap.1 hx
   exact bnd_lt (hI.lt s hs) x hx
theorem nth_take_mem (l : List Nat) (j : Nat) (h : j < l.length) (y : Nat) : y ∈ l.take (j + 1) ↔ y ∈ l.take j ∨ y = nth l j := by
 rw [List.take_succ_eq_append_getElem h, List.mem_append, List.mem_singleton]
 simp [nth, h]
theorem own_drop {w : World} {base g n c : Nat} {T : TypeId} {l : List Nat} (h : w.ownsRow base T 1 (.slice (some ⟨g, 0, none⟩) n c) n (u64C l)) (k : Nat) (hk : k ≤ n) : Rd w 1 (some ⟨g, k, none⟩) (n - k) (u64C (l.drop k)) := by
 have hlen : l.length = n := by have := h.1; rw [u64C_length] at this; omega
 refine ⟨by rw [u64C_length, List.length_drop]; omega, fun hn => ⟨g, k, rfl, fun j u hu => ?_⟩⟩
 rw [← u64C_drop, List.getElem?_drop] at hu
 have hc := h.cells (g := g) rfl (k + j) u hu
 rwa [add_at, Nat.zero_add] at hc
theorem own_read {w : World} {base n c : Nat} {T : TypeId} {a : Option Addr} {l : List Nat} (h : w.ownsRow base T 1 (.slice a n c) n (u64C l)) (hn : 0 < n) : ∃ g, a = some ⟨g, 0, none⟩ ∧ base ≤ g ∧ n ≤ c ∧ ∀ i, i < n → w.cell? ⟨g, i, none⟩ = some (.int .u64 ((nth l i : Nat) : Int)) := by
 have hlen : l.length = n := by have := h.1; rw [u64C_length] at this; omega
 rcases h.2 with ⟨_, h0⟩ | ⟨g, cap, cur, hv, hg, hh, hnc, hcm, _⟩
 · omega
 · obtain ⟨rfl, rfl⟩ : a = some ⟨g, 0, none⟩ ∧ c = cap := by simpa using hv
   refine ⟨g, rfl, hg, hnc, fun i hi => ?_⟩
   have hc := h.cells (g := g) rfl i (.int .u64 ((nth l i : Nat) : Int)) (u64C_get l i (by omega))
   rw [add_at, Nat.zero_add] at hc
   exact hc
theorem own_none {w : World} {base n c : Nat} {T : TypeId} {a : Option Addr} {xs : List Value} {sz : Nat} (h : w.ownsRow base T sz (.slice a n c) n xs) : (a = none ∧ n = 0 ∧ c = 0) ∨ ∃ g, a = some ⟨g, 0, none⟩ ∧ base ≤ g ∧ n ≤ c ∧ g < w.heap.size := by
 rcases h.2 with ⟨hv, h0⟩ | ⟨g, cap, cur, hv, hg, hh, hnc, hcm, _⟩
 · obtain ⟨rfl, rfl, rfl⟩ : a = none ∧ n = 0 ∧ c = 0 := by simpa using hv
   exact .inl ⟨rfl, rfl, rfl⟩
 · obtain ⟨rfl, rfl⟩ : a = some ⟨g, 0, none⟩ ∧ c = cap := by simpa using hv
   exact .inr ⟨g, rfl, hg, hnc, (Array.getElem?_eq_some_iff.1 hh).1⟩
theorem own_block {w : World} {base g sz n : Nat} {e : TypeId} {C : Array Value} {xs : List Value} (h : w.heap[g]? = some (.cells C e (0, 0))) (hb : base ≤ g) (hC : C = xs.toArray) (hx : xs.length = n * sz) (hn : n ≤ maxLen) : w.ownsRow base e sz (.slice (some ⟨g, 0, none⟩) n n) n xs := by
 subst hC
 refine ⟨hx, .inr ⟨g, n, xs.toArray, rfl, hb, h, Nat.le_refl _, hn, by simpa using hx, ?_⟩⟩
 rw [← hx]; simp
theorem step_append_u64 {w : World} {ops : Array Oper} {o : Oper} {a : Act} {K : Act → World → Prop} {Q : Exit → Act → World → Prop} {E : Prop} (hgd : o.guard = none) (s x : Operand)
 (ho : o.op = .call { callee := .builtin .append, args := #[s, x], argTypes := #[151, 151] }) (hty : o.type = 151)
 (base : Nat) (v : Value) (n : Nat) (xs : List Nat) (hs : a.eval s = v) (hown : w.ownsRow base 24 1 v n (u64C xs)) (A : Option Addr) (m c : Nat) (l : List Nat) (hx : a.eval x = .slice A m c) (hr : Rd w 1 A m (u64C l)) (hb : n + m ≤ 1000000) (hbase : base ≤ w.heap.size)
 (h : ∀ v' w', w'.ownsRow base 24 1 v' (n + m) (u64C (xs ++ l)) → w.grownBy w' v.ownBlock → K (a.put o.dst v') w') :
 if Region.wanted o (yielded ops a.tmps) = true then Oper.wp Tryz.prog o a w K Q else E := by
 obtain ⟨v', w', hrun, h1, h2⟩ := run_append_u64 base v n xs hown A m c l hr hb hbase
 exact step_append_hr hgd s x _ ho _ _ hs hx v' w' (by rw [hty]; exact hrun) (h v' w' h1 h2)
set_option maxRecDepth 20000 in
set_option maxHeartbeats 4000000 in
theorem refStarts_any (a : Option Addr) (n cap : Nat) (ls : List (List Iv)) (w : World) (hR : Rls w a n cap ls) (hn : n ≤ 1000) (hm : (allL ls).length ≤ 100000) :
 Calls Tryz.prog 183 #[.slice a n cap] w fun e w' =>
  (∃ v L, e = .returned v ∧ w'.ownsRow w.heap.size 24 1 v L.length (u64C L) ∧ Asc L ∧ ∀ y, y ∈ L ↔ y ∈ allL ls) ∧ Below w.heap.size w w' := by
 have HR := Lib.hid hR
 have Hl := Lib.hid hR.len
 have Hm := Lib.hid hm
 have ho0 := World.ownsRow_lit (e := 24) (size := 1) (base := w.heap.size) w (u64C [0]).toArray 1 (Nat.le_refl _) (by unfold maxLen; omega) rfl
 have Ho0 := Lib.hid ho0
 have hb0 : Below w.heap.size w (w.alloc (.cells (u64C [0]).toArray 24)) := (Below.refl _ _).alloc (Nat.le_refl _) _
 clear hR hm ho0
 go_enter Tryz.func183, Tryz.ntmps183
 go_wp2
 go_loopw [3, 4, 5] (fun v i _ wr => ∃ k : Nat, k ≤ n ∧ i = .int .i64 k ∧ Below w.heap.size w wr ∧ Hid (∃ m, m = (0 :: (ls.take k).flatMap bnds).length ∧ wr.ownsRow w.heap.size 24 1 v m (u64C (0 :: (ls.take k).flatMap bnds)))) (fun _ i _ _ => n - (intOf i).toNat)
 case atStart => exact ⟨0, by omega, rfl, hb0, 1, rfl, Ho0.out⟩
 case round =>
  obtain ⟨k, hk, rfl, hb, ho⟩ := hrel
  have Hb := Lib.hid hb; clear hb
  by_cases hkn : k < n
  · go_wp2
    obtain ⟨wo, hwo⟩ : ∃ wo : World, wo = wr := ⟨_, rfl⟩
    go_loopw [3, 5] (fun v j wi => ∃ m : Nat, m ≤ (ls.getD k []).length ∧ j = .int .i64 m ∧ Below w.heap.size w wi ∧ Hid (∃ q, q = (0 :: (ls.take k).flatMap bnds ++ bnds ((ls.getD k []).take m)).length ∧ wi.ownsRow w.heap.size 24 1 v q (u64C (0 :: (ls.take k).flatMap bnds ++ bnds ((ls.getD k []).take m))))) (fun _ j _ => (ls.getD k []).length - (intOf j).toNat)
    case atStart => exact ⟨0, by omega, rfl, Hb.out, by
     obtain ⟨m, h1, h2⟩ := ho.out
     simp only [List.take_zero]
     exact ⟨m, by rw [h1]; simp [bnds], by simpa [bnds] using h2⟩⟩
    case round =>
     obtain ⟨m, hm', rfl, hb, hoi⟩ := hrel
     have Hbi := Lib.hid hb; clear hb
     obtain ⟨bb, oo, rfl, hcell⟩ := HR.out.cells (by omega)
     obtain ⟨A, c, hc0, hI⟩ := hcell k hkn
     clear hcell
     have hmx : (ls.getD k []).length ≤ 9223372036854775807 := Nat.le_trans hI.room hI.most
     have HC0 := Lib.hid (fun w' (h : Below w.heap.size w w') => (h.cell (p := ⟨bb, oo + k, none⟩) (cell_lt hc0)).trans hc0)
     have HI := Lib.hid hI
     have hkl : k < ls.length := by rw [Hl.out]; exact hkn
     have Htk := Lib.hid (take_getD ls [] k hkl)
     have Hsum := Lib.hid (show (0 :: (ls.take k).flatMap bnds).length + (bnds (ls.getD k [])).length ≤ 100000 from by
      have h1 := sub_len bnds ls (k + 1)
      rw [Htk.out, List.flatMap_append, List.length_append] at h1
      have h2 := Hm.out
      simp [allL] at h2
      simp at h1 ⊢
      omega)
     clear hc0 hI hkl
     generalize ls.getD k [] = l at *
     by_cases hml : m < l.length
     · obtain ⟨ib, io, rfl, hcell⟩ := HI.out.cells (by omega)
       obtain ⟨i1, i2⟩ := hcell m hml
       have HI1 := Lib.hid (fun w' (h : Below w.heap.size w w') => (h.cell (p := ⟨ib, io + m * 2, none⟩) (cell_lt i1)).trans i1)
       have HI2 := Lib.hid (fun w' (h : Below w.heap.size w w') => (h.cell (p := ⟨ib, io + m * 2 + 1, none⟩) (cell_lt i2)).trans i2)
       have Hlc := Lib.hid HI.out.room
       have Hslt := Lib.hid (HI.out.lt (nthI l m) (nthI_mem hml))
       have Htm := Lib.hid (show l.take (m + 1) = l.take m ++ [nthI l m] from by rw [List.take_succ_eq_append_getElem hml, nthI_get hml])
       have Hbl := Lib.hid (show (bnds (l.take m)).length + 2 ≤ (bnds l).length + 2 from by have := sub_len bnd l m; unfold bnds; omega)
       clear hcell i1 i2
       generalize nthI l m = s at *
       obtain ⟨x, y⟩ := s
       simp only at HI1 HI2 Hslt
       obtain ⟨q, hq, hov⟩ := hoi.out
       generalize hX : 0 :: (ls.take k).flatMap bnds ++ bnds (l.take m) = X at *
       have HX := Lib.hid hX; clear hX
       have hq2 : q ≤ 100000 := by
        have h1 := Hsum.out; have h2 := Hbl.out
        rw [hq, ← HX.out, List.length_append]
        omega
       have Hq := Lib.hid hq; clear hq
       obtain ⟨v1, w1, hr1, ho1, hg1⟩ := run_append_u64 w.heap.size u3 q X (hov.alloc (.cells #[.int .u64 x] 24)) (some ⟨wr.heap.size, 0, none⟩) 1 1 [x] (rd_block (heap_at_new _ _ _ rfl) rfl rfl) (by omega) (by have := Hbi.out.size; simp; omega)
       have Hov := Lib.hid hov; clear hov
       have Ho1 := Lib.hid ho1; clear ho1
       have Hb1 := Lib.hid (Hbi.out.alloc Hbi.out.size (.cells #[.int .u64 x] 24) |>.grown hg1 (by have := Hbi.out.size; simp; omega) (fun k hk => (Hov.out.lt k hk).1))
       clear hg1
       have c0 := HC0.out _ Hbi.out
       have c1 := HI1.out _ Hbi.out
       go_wp2_with (at_builtin; refine wpList_append_hr _ _ 151 rfl rfl _ _ rfl rfl _ _ hr1 ?_)
       clear hr1 c0 c1
       have hmi : (m : Int) < (l.length : Int) := by omega
       have hki : (k : Int) < (n : Int) := by omega
       have hm0 : (0 : Int) ≤ m := by omega
       have hk0 : (0 : Int) ≤ k := by omega
       have HXm := Lib.hid (show 0 :: (ls.take k).flatMap bnds ++ bnds (l.take (m + 1)) = X ++ bnd (x, y) from by rw [Htm.out, bnds_snoc, ← HX.out, List.append_assoc])
       by_cases hy : y < 18446744073709551615
       · have hd : decide ((y : Int) < 18446744073709551615) = true := by rw [decide_eq_true_iff]; omega
         have hw : IntKind.u64.wrap ((y : Int) + 1) = (y : Int) + 1 := by rw [IntKind.wrap_u64]; omega
         have Hbd := Lib.hid (show bnd (x, y) = [x, y + 1] from by simp [bnd, hy])
         clear hy
         refine wp_region_below (by kernel_rfl) (by kernel_rfl) ?_
         repeat (go_big_quiet_step ((intro hw; first
          | rfl
          | (go_at_call 205; exact keep_same hw (refMax_any _))
          | (have q0 := HC0.out _ (Hb1.out.trans (hw.mono Hb1.out.size))
             have q2 := HI2.out _ (Hb1.out.trans (hw.mono Hb1.out.size))
             go_simp
             first | rfl | exact ⟨rfl, hw⟩ | (trace_state; fail)))))
         refine wpQuiet_nil ?_
         intro w3 hb3
         have Hb3 := Lib.hid (Hb1.out.trans (hb3.mono Hb1.out.size))
         have Ho3 := Lib.hid (own_below Ho1.out hb3)
         clear hb3
         have c0 := HC0.out _ Hb3.out
         have c2 := HI2.out _ Hb3.out
         obtain ⟨v2, w4, hr2, ho2, hg2⟩ := run_append_u64 w.heap.size v1 (q + 1) (X ++ [x]) (Ho3.out.alloc (.cells #[.int .u64 ((y : Int) + 1)] 24)) (some ⟨w3.heap.size, 0, none⟩) 1 1 [y + 1] (rd_block (heap_at_new _ _ _ rfl) rfl rfl) (by omega) (by have := Hb3.out.size; simp; omega)
         have Ho2 := Lib.hid ho2; clear ho2
         have Hb2 := Lib.hid (Hb3.out.alloc Hb3.out.size (.cells #[.int .u64 ((y : Int) + 1)] 24) |>.grown hg2 (by have := Hb3.out.size; simp; omega) (fun k hk => (Ho3.out.lt k hk).1))
         clear hg2
         go_wp2_with (at_builtin; refine wpList_append_hr _ _ 151 rfl rfl _ _ rfl rfl _ _ hr2 ?_)
         clear hr2 c0 c2
         go_roundw
         case rel => exact ⟨m + 1, by omega, by go_num, Hb2.out, by
          rw [HXm.out, Hbd.out]
          exact ⟨q + 1 + 1, by have := Hq.out; simp; omega, by simpa using Ho2.out⟩⟩
         case measure => simp [intOf]; omega
       · have hd : decide ((y : Int) < 18446744073709551615) = false := by rw [decide_eq_false_iff_not]; omega
         have Hbd := Lib.hid (show bnd (x, y) = [x] from by simp [bnd, hy])
         clear hy
         refine wp_region_below (by kernel_rfl) (by kernel_rfl) ?_
         repeat (go_big_quiet_step ((intro hw; first
          | rfl
          | (go_at_call 205; exact keep_same hw (refMax_any _))
          | (have q0 := HC0.out _ (Hb1.out.trans (hw.mono Hb1.out.size))
             have q2 := HI2.out _ (Hb1.out.trans (hw.mono Hb1.out.size))
             go_simp
             first | rfl | exact ⟨rfl, hw⟩ | (trace_state; fail)))))
         refine wpQuiet_nil ?_
         intro w3 hb3
         have Hb3 := Lib.hid (Hb1.out.trans (hb3.mono Hb1.out.size))
         have Ho3 := Lib.hid (own_below Ho1.out hb3)
         clear hb3
         go_wp2
         go_roundw
         case rel => exact ⟨m + 1, by omega, by go_num, Hb3.out, by
          rw [HXm.out, Hbd.out]
          exact ⟨q + 1, by have := Hq.out; simp; omega, Ho3.out⟩⟩
         case measure => simp [intOf]; omega
     · obtain rfl : m = l.length := by omega
       have c0 := HC0.out _ Hbi.out
       go_wp2
       go_roundw
       case rel => exact ⟨k + 1, by omega, by go_num, Hbi.out, by
        obtain ⟨q, h1, h2⟩ := hoi.out
        rw [List.take_length] at h1 h2
        rw [Htk.out, List.flatMap_append]
        have e : 0 :: ((ls.take k).flatMap bnds ++ [l].flatMap bnds) = 0 :: (ls.take k).flatMap bnds ++ bnds l := by simp
        rw [e]
        exact ⟨q, h1, h2⟩⟩
       case measure => simp [intOf]; omega
  · obtain rfl : k = n := by omega
    obtain ⟨N, hN, ho⟩ := ho.out
    have hL : 0 :: (ls.take k).flatMap bnds = allL ls := by rw [List.take_of_length_le (by rw [Hl.out]; exact Nat.le_refl _)]; rfl
    rw [hL] at hN ho
    clear hL
    have hmL := Hm.out
    have hlt := HR.out.all_lt
    generalize hLL : allL ls = L at *
    have HLL := Lib.hid hLL
    clear hLL
    obtain ⟨A, C, rfl, hU⟩ := u64s_own ho hlt
    have HU := Lib.hid hU
    have HL := Lib.hid hN
    have hNb : N ≤ 100000 := by rw [hN]; exact hmL
    have Hlt := Lib.hid hlt
    clear hU hN ho hlt
    have Hbs := Lib.hid Hb.out.size
    obtain ⟨w2, rfl⟩ : ∃ w2 : World, w2 = wr := ⟨_, rfl⟩
    go_wp2
    go_loopw [6, 7, 8] (fun o i t wi => ∃ (j : Nat) (R : List Nat), j ≤ N ∧ i = .int .i64 j ∧ Below w2.heap.size w2 wi ∧ Hid (wi.ownsRow w2.heap.size 24 1 o R.length (u64C R) ∧ Asc R ∧ R.length ≤ j ∧ ∀ y, y ∈ R ↔ y ∈ L.take j)) (fun _ i _ _ => N - (intOf i).toNat)
    case atStart => exact ⟨0, [], by omega, rfl, Below.refl _ _, World.ownsRow_nil _ _ _ _, trivial, Nat.le_refl _, by simp⟩
    case round =>
     obtain ⟨j, R, hj, rfl, hb, hR⟩ := hrel
     have Hbj := Lib.hid hb; clear hb
     by_cases hjN : j < N
     · obtain ⟨ho, hA, hRj, hRm⟩ := hR.out
       have hRlt : ∀ y ∈ R, y < 18446744073709551616 := fun y hy => Hlt.out y (List.mem_of_mem_take ((hRm y).1 hy))
       obtain ⟨a1, c1, rfl, hU1⟩ := u64s_own ho hRlt
       have HU1 := Lib.hid hU1
       have Hrl := Lib.hid hRlt
       have Ho := Lib.hid ho
       have HA := Lib.hid hA
       obtain ⟨x, hx⟩ : ∃ x, x = nth L j := ⟨_, rfl⟩
       have Hx := Lib.hid hx
       have HRm := Lib.hid (show ∀ y, y ∈ L.take (j + 1) ↔ y ∈ R ∨ y = x from fun y => by
        rw [nth_take_mem L j (by rw [HU.out.len]; exact hjN), ← hRm, ← hx])
       have hRmN : R.length ≤ 100001 := by have := HL.out; omega
       have HRj := Lib.hid hRj
       clear hx hR hU1 ho hA hRm hRlt hRj
       generalize hm : R.length = m at *
       have Hm1 := Lib.hid hm
       clear hm
       have Hbo := Lib.hid Hbj.out.size
       obtain ⟨w5, rfl⟩ : ∃ w5 : World, w5 = wr := ⟨_, rfl⟩
       obtain ⟨bL, oL, rfl, hcL⟩ := HU.out.cells (by omega)
       have hcl := hcL j hjN
       rw [← Hx.out] at hcl
       have HcL := Lib.hid (fun w' (h : Below w2.heap.size w2 w') => (h.cell (p := ⟨bL, oL + j, none⟩) (cell_lt hcl)).trans hcl)
       clear hcL hcl
       go_wp2
       go_loopw [8] (fun t wi => ∃ k : Nat, k ≤ m ∧ t = .int .i64 k ∧ Below w5.heap.size w5 wi ∧ Hid (∀ t, k ≤ t → t < m → x < nth R t)) (fun t _ => (intOf t).toNat)
       case atStart => exact ⟨m, by omega, rfl, Below.refl _ _, fun t h1 h2 => by omega⟩
       case round =>
        obtain ⟨k, hk, rfl, hb, ht⟩ := hrel
        have Hbk := Lib.hid hb
        have Hbk2 := Lib.hid (Hbj.out.trans (hb.mono Hbo.out)); clear hb
        have hjNi : (j : Int) < (N : Int) := by omega
        have hj0 : (0 : Int) ≤ j := by omega
        by_cases hk0 : 0 < k
        · obtain ⟨g, rfl, hgb, hgc, hcR⟩ := own_read Ho.out (by omega)
          have hcr := hcR (k - 1) (by omega)
          have HcR := Lib.hid (fun w' (h : Below w5.heap.size w5 w') => (h.cell (p := ⟨g, k - 1, none⟩) (cell_lt hcr)).trans hcr)
          clear hcR hcr
          obtain ⟨z, hz⟩ : ∃ z, z = nth R (k - 1) := ⟨_, rfl⟩
          rw [← hz] at HcR
          have Hz := Lib.hid hz; clear hz
          have hg0 : decide (0 < (k : Int)) = true := by rw [decide_eq_true_iff]; omega
          have hsub : IntKind.i64.wrap ((k : Int) - 1) = (k : Int) - 1 := by rw [IntKind.wrap_i64]; omega
          have h01 : 0 ≤ (k : Int) - 1 := by omega
          have h02 : ((k : Int) - 1).toNat = k - 1 := by omega
          have h03 : (k : Int) - 1 < (m : Int) := by omega
          by_cases hzx : x < z
          · have hd : decide ((x : Int) < (z : Int)) = true := by rw [decide_eq_true_iff]; omega
            have hdn : decide (x < z) = true := by rw [decide_eq_true_iff]; exact hzx
            have Hzx := Lib.hid hzx; clear hzx
            go_wp2_with fail
            refine wp_region_below (by kernel_rfl) (by kernel_rfl) ?_
            repeat (go_big_quiet_step ((intro hw; first
             | rfl
             | (have q0 := HcL.out _ (Hbk2.out.trans (hw.mono Hbk2.out.size))
                have q2 := HcR.out _ (Hbk.out.trans (hw.mono Hbk.out.size))
                go_simp
                first | rfl | exact ⟨rfl, hw⟩ | (trace_state; fail)))))
            refine wpQuiet_nil ?_
            intro w3 hb3
            have Hb3 := Lib.hid (Hbk.out.trans (hb3.mono Hbk.out.size))
            clear hb3
            go_wp2
            go_roundw
            case rel => exact ⟨k - 1, by omega, by go_num, Hb3.out, fun t h1 h2 => by
             rcases Nat.lt_or_ge t k with h | h
             · rw [show t = k - 1 by omega, ← Hz.out]; exact Hzx.out
             · exact ht.out t h h2⟩
            case measure => simp [intOf]; omega
          · have hd : decide ((x : Int) < (z : Int)) = false := by rw [decide_eq_false_iff_not]; omega
            have Hzx := Lib.hid (Nat.le_of_not_lt hzx)
            have hdn : decide (x < z) = false := by rw [decide_eq_false_iff_not]; exact hzx
            clear hzx
            go_wp2_with fail
            refine wp_region_below (by kernel_rfl) (by kernel_rfl) ?_
            repeat (go_big_quiet_step ((intro hw; first
             | rfl
             | (have q0 := HcL.out _ (Hbk2.out.trans (hw.mono Hbk2.out.size))
                have q2 := HcR.out _ (Hbk.out.trans (hw.mono Hbk.out.size))
                go_simp
                first | rfl | exact ⟨rfl, hw⟩ | (trace_state; fail)))))
            refine wpQuiet_nil ?_
            intro w3 hb3
            have Hb3 := Lib.hid (Hbk.out.trans (hb3.mono Hbk.out.size))
            have Hc3 := Lib.hid (Hbj.out.trans (Hb3.out.mono Hbo.out))
            clear hb3
            have he0 : ((k : Int) == 0) = false := by rw [beq_eq_false_iff_ne]; omega
            by_cases hzx : z = x
            · obtain rfl := hzx
              have Hzm := Lib.hid (show z ∈ R from by rw [Hz.out]; exact nth_mem (by rw [Hm1.out]; omega))
              go_wp2_with fail
              refine wp_region_below (by kernel_rfl) (by kernel_rfl) ?_
              repeat (go_big_quiet_step ((intro hw; first
               | rfl
               | (have q0 := HcL.out _ (Hc3.out.trans (hw.mono Hc3.out.size))
                  have q2 := HcR.out _ (Hb3.out.trans (hw.mono Hb3.out.size))
                  go_simp
                  first | rfl | exact ⟨rfl, hw⟩ | (trace_state; fail)))))
              refine wpQuiet_nil ?_
              intro w4 hb4
              have Hb4 := Lib.hid (Hb3.out.trans (hb4.mono Hb3.out.size))
              have Hc4 := Lib.hid (Hbj.out.trans (Hb4.out.mono Hbo.out))
              clear hb4
              go_wp2
              go_roundw
              case rel => exact ⟨j + 1, R, by omega, by go_num, Hc4.out, by
               rw [Hm1.out]
               exact ⟨own_below Ho.out Hb4.out, HA.out, by have := HRj.out; omega, fun y => by rw [HRm.out y]; exact ⟨.inl, fun h => h.elim id fun h => by rw [h]; exact Hzm.out⟩⟩⟩
              case measure => simp [intOf]; omega
            · have hne : ((z : Int) != (x : Int)) = true := by rw [bne_iff_ne]; omega
              have Hins := Lib.hid (show 0 < k → nth R (k - 1) < x from fun _ => by rw [← Hz.out]; have := Hzx.out; omega)
              clear hzx
              go_wp2_with fail
              refine wp_region_below (by kernel_rfl) (by kernel_rfl) ?_
              repeat (go_big_quiet_step ((intro hw; first
               | rfl
               | (have q0 := HcL.out _ (Hc3.out.trans (hw.mono Hc3.out.size))
                  have q2 := HcR.out _ (Hb3.out.trans (hw.mono Hb3.out.size))
                  go_simp
                  first | rfl | exact ⟨rfl, hw⟩ | (trace_state; fail)))))
              refine wpQuiet_nil ?_
              intro w4 hb4
              have Hb4 := Lib.hid (Hb3.out.trans (hb4.mono Hb3.out.size))
              have Hc4 := Lib.hid (Hbj.out.trans (Hb4.out.mono Hbo.out))
              clear hb4
              clear h01 h02 h03 hsub hg0 hne he0
              have r0 := fun w' (h : Below w4.heap.size w4 w') => HcL.out w' (Hc4.out.trans (h.mono Hc4.out.size))
              have Ho4 := Lib.hid (own_below Ho.out Hb4.out)
              have Hrd := Lib.hid (show ∀ w', Below w4.heap.size w4 w' → Rd w' 1 (if c1 = k then some ⟨g, 0, none⟩ else some ⟨g, k, none⟩) (m - k) (u64C (R.drop k)) from fun w' h => by
               have h1 := (own_drop Ho4.out k hk).below h
               split
               · exact ⟨h1.1, fun h0 => by omega⟩
               · exact h1)
              have Htk := Lib.hid (show ∀ w', Below w4.heap.size w4 w' → w'.ownsRow w2.heap.size 24 1 (.slice (some ⟨g, 0, none⟩) k c1) k (u64C (R.take k)) from fun w' h => by
               have := own_take (own_below Ho4.out h) k hk
               rwa [Nat.mul_one, u64C_take] at this)
              have Hfin := Lib.hid (asc_ins HA.out (x := x) (k := k) (by rw [Hm1.out]; exact hk) Hins.out (by rw [Hm1.out]; exact ht.out))
              have Hz4 := Lib.hid Hc4.out.size
              have hkc : k ≤ c1 := by omega
              have hgl : g < w4.heap.size := by
               rcases own_none Ho4.out with ⟨h, _⟩ | ⟨g', h, _, _, h4⟩
               · cases h
               · cases h; exact h4
              go_wp2_with fail
              have q0 := r0 w4 (Below.refl _ _)
              go_region_law (first
               | (refine step_append_u64 rfl (.tmp 103) (.tmp 106) rfl rfl w4.heap.size _ 1 [x] rfl (own_block (by first | exact heap_at_new _ _ _ (by simp) | exact heap_at_old _ _ _ _ (heap_at_new _ _ _ (by simp))) (by simp <;> omega) rfl rfl (by unfold maxLen; omega)) _ (m - k) _ (R.drop k) rfl (Hrd.out _ (by first | exact ((Below.refl _ _).alloc (Nat.le_refl _) _).drew | exact ((Below.refl _ _).drew).alloc (by simp) _)) (by omega) (by simp <;> omega) ?_
                  intro v1 w1 ho1 hg1
                  obtain ⟨g1, cc1, rfl, -, -⟩ := ho1.form (by omega)
                  have hS1 : Below w4.heap.size w4 w1 := by
                   refine Below.grown (by first | exact ((Below.refl _ _).alloc (Nat.le_refl _) _).drew | exact ((Below.refl _ _).drew).alloc (by simp) _) hg1 ?_ ?_
                   · simp <;> omega
                   · intro j hj
                     simp [Value.ownBlock, Act.eval] at hj
                     omega)
               | (refine step_append_u64 rfl (.tmp 98) (.tmp 107) rfl rfl w2.heap.size _ k _ rfl (Htk.out _ hS1) _ (1 + (m - k)) _ ([x] ++ R.drop k) rfl (Rd.own ho1) (by omega) (by have := hS1.size; have := Hz4.out; simp <;> omega) ?_
                  intro v2 w6 ho2 hg2
                  have hS2 : Below w2.heap.size w2 w6 := by
                   refine Below.grown ((Hc4.out).trans (hS1.mono Hc4.out.size)) hg2 (by have := hS1.size; have := Hz4.out; omega) ?_
                   intro j hj
                   exact ((Htk.out _ hS1).lt j hj).1))
              all_goals
               go_wp2
               go_roundw
               case rel => exact ⟨j + 1, _, by omega, by go_num, hS2, by
                have e : (R.take k ++ x :: R.drop k).length = k + (1 + (m - k)) := by simp [Hm1.out]; omega
                exact ⟨by rw [e]; exact ho2, Hfin.out.1, by rw [e]; have := HRj.out; omega, fun y => (Hfin.out.2 y).trans (HRm.out y).symm⟩⟩
               case measure => simp [intOf]; omega
        · obtain rfl : k = 0 := by omega
          rw [show ((0 : Nat) : Int) = 0 from rfl]
          rcases own_none Ho.out with ⟨rfl, rfl, rfl⟩ | ⟨g, rfl, hgb, hgc, -⟩
          · obtain rfl : R = [] := List.eq_nil_of_length_eq_zero Hm1.out
            rw [show ((0 : Nat) : Int) = 0 from rfl]
            go_wp2_with fail
            refine wp_region_below (by kernel_rfl) (by kernel_rfl) ?_
            repeat (go_big_quiet_step ((intro hw; first
             | rfl
             | (have q0 := HcL.out _ (Hbk2.out.trans (hw.mono Hbk2.out.size))
                go_simp
                first | rfl | exact ⟨rfl, hw⟩ | (trace_state; fail)))))
            refine wpQuiet_nil ?_
            intro w3 hb3
            have Hb3 := Lib.hid (Hbk.out.trans (hb3.mono Hbk.out.size))
            have Hc3 := Lib.hid (Hbj.out.trans (Hb3.out.mono Hbo.out))
            clear hb3
            go_wp2_with fail
            refine wp_region_below (by kernel_rfl) (by kernel_rfl) ?_
            repeat (go_big_quiet_step ((intro hw; first
             | rfl
             | (have q0 := HcL.out _ (Hc3.out.trans (hw.mono Hc3.out.size))
                go_simp
                first | rfl | exact ⟨rfl, hw⟩ | (trace_state; fail)))))
            refine wpQuiet_nil ?_
            intro w4 hb4
            have Hb4 := Lib.hid (Hb3.out.trans (hb4.mono Hb3.out.size))
            have Hc4 := Lib.hid (Hbj.out.trans (Hb4.out.mono Hbo.out))
            clear hb4
            go_wp2_with fail
            have r0 := fun w' (h : Below w4.heap.size w4 w') => HcL.out w' (Hc4.out.trans (h.mono Hc4.out.size))
            have Ho4 := Lib.hid (own_below Ho.out Hb4.out)
            have Hrd := Lib.hid (show ∀ w', Below w4.heap.size w4 w' → Rd w' 1 none 0 (u64C []) from fun w' h => ⟨rfl, fun h => by omega⟩)
            have Htk := Lib.hid (show ∀ w', Below w4.heap.size w4 w' → w'.ownsRow w2.heap.size 24 1 (.slice none 0 0) 0 (u64C []) from fun w' h => World.ownsRow_nil _ _ _ _)
            have Hfin := Lib.hid (asc_ins HA.out (x := x) (k := 0) (Nat.zero_le _) (fun h => by omega) (by rw [Hm1.out]; exact ht.out))
            have Hz4 := Lib.hid Hc4.out.size
            have q0 := r0 w4 (Below.refl _ _)
            go_region_law (first
             | (refine step_append_u64 rfl (.tmp 103) (.tmp 106) rfl rfl w4.heap.size _ 1 [x] rfl (own_block (by first | exact heap_at_new _ _ _ (by simp) | exact heap_at_old _ _ _ _ (heap_at_new _ _ _ (by simp))) (by simp <;> omega) rfl rfl (by unfold maxLen; omega)) _ 0 _ [] rfl (Hrd.out _ (by first | exact ((Below.refl _ _).alloc (Nat.le_refl _) _).drew | exact ((Below.refl _ _).drew).alloc (by simp) _)) (by omega) (by simp <;> omega) ?_
                intro v1 w1 ho1 hg1
                obtain ⟨g1, cc1, rfl, -, -⟩ := ho1.form (by omega)
                have hS1 : Below w4.heap.size w4 w1 := by
                 refine Below.grown (by first | exact ((Below.refl _ _).alloc (Nat.le_refl _) _).drew | exact ((Below.refl _ _).drew).alloc (by simp) _) hg1 ?_ ?_
                 · simp <;> omega
                 · intro j hj
                   simp [Value.ownBlock, Act.eval] at hj
                   omega)
             | (refine step_append_u64 rfl (.tmp 98) (.tmp 107) rfl rfl w2.heap.size _ 0 [] rfl (Htk.out _ hS1) _ (1 + 0) _ ([x] ++ []) rfl (Rd.own ho1) (by omega) (by have := hS1.size; have := Hz4.out; simp <;> omega) ?_
                intro v2 w6 ho2 hg2
                have hS2 : Below w2.heap.size w2 w6 := by
                 refine Below.grown ((Hc4.out).trans (hS1.mono Hc4.out.size)) hg2 (by have := hS1.size; have := Hz4.out; omega) ?_
                 intro j hj
                 exact ((Htk.out _ hS1).lt j hj).1))
            all_goals
             go_wp2
             go_roundw
             case rel => exact ⟨j + 1, x :: [], by omega, by go_num, hS2, by
              have e : (x :: []).length = 0 + (1 + 0) := by rfl
              exact ⟨by rw [e]; exact ho2, Hfin.out.1, by rw [e]; have := HRj.out; omega, fun y => (Hfin.out.2 y).trans (HRm.out y).symm⟩⟩
             case measure => simp [intOf]; omega
          · go_wp2_with fail
            refine wp_region_below (by kernel_rfl) (by kernel_rfl) ?_
            repeat (go_big_quiet_step ((intro hw; first
             | rfl
             | (have q0 := HcL.out _ (Hbk2.out.trans (hw.mono Hbk2.out.size))
                go_simp
                first | rfl | exact ⟨rfl, hw⟩ | (trace_state; fail)))))
            refine wpQuiet_nil ?_
            intro w3 hb3
            have Hb3 := Lib.hid (Hbk.out.trans (hb3.mono Hbk.out.size))
            have Hc3 := Lib.hid (Hbj.out.trans (Hb3.out.mono Hbo.out))
            clear hb3
            go_wp2_with fail
            refine wp_region_below (by kernel_rfl) (by kernel_rfl) ?_
            repeat (go_big_quiet_step ((intro hw; first
             | rfl
             | (have q0 := HcL.out _ (Hc3.out.trans (hw.mono Hc3.out.size))
                go_simp
                first | rfl | exact ⟨rfl, hw⟩ | (trace_state; fail)))))
            refine wpQuiet_nil ?_
            intro w4 hb4
            have Hb4 := Lib.hid (Hb3.out.trans (hb4.mono Hb3.out.size))
            have Hc4 := Lib.hid (Hbj.out.trans (Hb4.out.mono Hbo.out))
            clear hb4
            go_wp2_with fail
            have r0 := fun w' (h : Below w4.heap.size w4 w') => HcL.out w' (Hc4.out.trans (h.mono Hc4.out.size))
            have Ho4 := Lib.hid (own_below Ho.out Hb4.out)
            have Hrd := Lib.hid (show ∀ w', Below w4.heap.size w4 w' → Rd w' 1 (some ⟨g, 0, none⟩) m (u64C R) from fun w' h => (Rd.own Ho4.out).below h)
            have Htk := Lib.hid (show ∀ w', Below w4.heap.size w4 w' → w'.ownsRow w2.heap.size 24 1 (.slice (some ⟨g, 0, none⟩) 0 c1) 0 (u64C []) from fun w' h => by
             have := own_take (own_below Ho4.out h) 0 (Nat.zero_le _)
             rw [Nat.zero_mul, List.take_zero] at this
             exact this)
            have Hfin := Lib.hid (asc_ins HA.out (x := x) (k := 0) (Nat.zero_le _) (fun h => by omega) (by rw [Hm1.out]; exact ht.out))
            have Hz4 := Lib.hid Hc4.out.size
            have q0 := r0 w4 (Below.refl _ _)
            go_region_law (first
             | (refine step_append_u64 rfl (.tmp 103) (.tmp 106) rfl rfl w4.heap.size _ 1 [x] rfl (own_block (by first | exact heap_at_new _ _ _ (by simp) | exact heap_at_old _ _ _ _ (heap_at_new _ _ _ (by simp))) (by simp <;> omega) rfl rfl (by unfold maxLen; omega)) _ m _ R rfl (Hrd.out _ (by first | exact ((Below.refl _ _).alloc (Nat.le_refl _) _).drew | exact ((Below.refl _ _).drew).alloc (by simp) _)) (by omega) (by simp <;> omega) ?_
                intro v1 w1 ho1 hg1
                obtain ⟨g1, cc1, rfl, -, -⟩ := ho1.form (by omega)
                have hS1 : Below w4.heap.size w4 w1 := by
                 refine Below.grown (by first | exact ((Below.refl _ _).alloc (Nat.le_refl _) _).drew | exact ((Below.refl _ _).drew).alloc (by simp) _) hg1 ?_ ?_
                 · simp <;> omega
                 · intro j hj
                   simp [Value.ownBlock, Act.eval] at hj
                   omega)
             | (refine step_append_u64 rfl (.tmp 98) (.tmp 107) rfl rfl w2.heap.size _ 0 [] rfl (Htk.out _ hS1) _ (1 + m) _ ([x] ++ R) rfl (Rd.own ho1) (by omega) (by have := hS1.size; have := Hz4.out; simp <;> omega) ?_
                intro v2 w6 ho2 hg2
                have hS2 : Below w2.heap.size w2 w6 := by
                 refine Below.grown ((Hc4.out).trans (hS1.mono Hc4.out.size)) hg2 (by have := hS1.size; have := Hz4.out; omega) ?_
                 intro j hj
                 exact ((Htk.out _ hS1).lt j hj).1))
            all_goals
             go_wp2
             go_roundw
             case rel => exact ⟨j + 1, x :: R, by omega, by go_num, hS2, by
              have e : (x :: R).length = 0 + (1 + m) := by rw [List.length_cons, Hm1.out]; omega
              exact ⟨by rw [e]; exact ho2, Hfin.out.1, by rw [e]; have := HRj.out; omega, fun y => (Hfin.out.2 y).trans (HRm.out y).symm⟩⟩
             case measure => simp [intOf]; omega
     · obtain rfl : j = N := by omega
       obtain ⟨ho, hA, -, hRm⟩ := hR.out
       go_wp2
       go_ret
       refine ⟨⟨_, R, rfl, own_mono ho Hbs.out, hA, fun y => ?_⟩, Hb.out.trans (Hbj.out.mono Hbs.out)⟩
       rw [hRm, HL.out, List.take_length, HLL.out]
end
end Go.Proofs.YtkkdlgcfcbaibaaGreatDoor
