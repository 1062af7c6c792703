/- Walks and laws, merged: part 26. -/
import Derived.Test.YtkkdlgcfcbaibaaGreatDoorPt25
import Derived.Test.YtkkdlgcfcbaibaaGreatDoorPt20
import Derived.Test.YtkkdlgcfcbaibaaGreatDoorPt06
import Derived.Test.YtkkdlgcfcbaibaaGreatDoorPt10
import Derived.Test.YtkkdlgcfcbaibaaGreatDoorPt12
import Derived.Test.YtkkdlgcfcbaibaaGreatDoorPt21
import Derived.Test.YtkkdlgcfcbaibaaGreatDoorPt22
import Derived.Test.YtkkdlgcfcbaibaaGreatDoorPt16
import Derived.Test.YtkkdlgcfcbaibaaGreatDoorPt19
section
namespace Go.Proofs.YtkkdlgcfcbaibaaGreatDoor
open Go.RowKit Go.Shelf
attribute [local go_sem] Oper.semAt_some wide_fn
set_option linter.unusedVariables false

theorem KeptT.refl (base : Nat) (T : TypeId → Prop) (A : World) : KeptT base T A A := ⟨rfl, rfl, rfl, Nat.le_refl _, fun _ _ _ => rfl⟩
theorem KeptT.trans {base : Nat} {T : TypeId → Prop} {A B C : World} (h : KeptT base T A B) (k : KeptT base T B C) : KeptT base T A C :=
  ⟨k.os.trans h.os, k.tape.trans h.tape, k.output.trans h.output, Nat.le_trans h.size k.size, fun i hi hp => (k.row i (Nat.lt_of_lt_of_le hi h.size) (hp.imp id fun ⟨C, U, fr, hT, hr⟩ => ⟨C, U, fr, hT, (h.row i hi (.inr ⟨C, U, fr, hT, hr⟩)).trans hr⟩)).trans (h.row i hi hp)⟩
theorem KeptT.of {base : Nat} {T : TypeId → Prop} {q : Nat → Prop} {A B : World} (h : Kept q A B) (s : Steady base T A B) : KeptT base T A B := ⟨h.os, h.tape, h.output, h.size, s.row⟩

set_option maxRecDepth 20000 in
set_option maxHeartbeats 4000000 in
theorem vecNumbers_any (a : Option Addr) (n c : Nat) (v : Vec) (w : World) (hE : Ents w a n c v) (hn : n ≤ 300) (hN : (numV v).length ≤ 900000) :
    Calls Tryz.prog 167 #[.slice a n c] w fun e w' =>
      (∃ y, e = .returned y ∧ w'.ownsRow w.heap.size 24 1 y (numV v).length (u64C (numV v))) ∧ Below w.heap.size w w' := by
  have HE := Lib.hid hE; have HN := Lib.hid hN
  clear hE hN
  refine (callsIn_wide (n := 3)).1 ?_
  refine callsIn_of_wp_marks Tryz.func167 rfl trivial ?_ rfl
  simp only [Tryz.ntmps167, List.size_toArray, List.length_cons, List.length_nil, Nat.reduceAdd, Nat.reduceSub, Array.replicate_succ, Array.replicate_zero, List.push_toArray, List.append_toArray, List.nil_append, List.cons_append]
  refine wpIn_wide.2 ?_
  go_wp2_with (go_at_call 198; refine (numbers_any _ _ _ _).mono ?_; rintro e w1 ⟨rfl, rfl⟩)
  refine (wpIn_wide (n := 3)).1 ?_
  obtain ⟨C0, hC0⟩ : ∃ C0 : Obj, C0 = .cells #[.slice none 0 0] 151 := ⟨_, rfl⟩
  obtain ⟨C1, hC1⟩ : ∃ C1 : Obj, C1 = .cells #[.slice a n c] 37 := ⟨_, rfl⟩
  rw [← hC0, ← hC1]
  have hs1 : (w.alloc C0).heap.size = w.heap.size + 1 := by simp
  obtain ⟨wl, hwl⟩ : ∃ wl : World, wl = (w.alloc C0).alloc C1 := ⟨_, rfl⟩
  rw [← hwl]
  try rw [hs1]
  have hsz : wl.heap.size = w.heap.size + 2 := by rw [hwl]; simp
  have hbw : Below w.heap.size w wl := by
    rw [hwl]
    exact ((Below.refl _ w).alloc (Nat.le_refl _) C0).alloc (by simp) C1
  have e0 : wl.heap[w.heap.size]? = some C0 := by rw [hwl]; exact row_old (row_new rfl)
  have e1 : wl.heap[w.heap.size + 1]? = some C1 := by rw [hwl]; exact row_new (by simp)
  clear hwl
  refine wp_range2 (n := 3) (gf := 214) (lb := #[.pointer (some ⟨w.heap.size + 1, 0, none⟩)]) rfl (enters_of Tryz.func214 (by kernel_rfl) rfl)
    (numbers_seq (3 - 1) w wl (w.heap.size + 1) a n c v HE.out hbw (by rw [e1, hC1]) hn)
    (fun x => rfl) (fun k hk => hk.elim) ?hput
    (fun pre W => Below w.heap.size w W ∧ ∃ v, W.heap[w.heap.size]? = some (.cells #[v] 151) ∧ W.ownsRow (w.heap.size + 4) 24 1 v pre.length (u64C pre))
    (fun _ _ _ => False) ?hI (fun _ _ _ _ h _ => h) ⟨hbw, .slice none 0 0, by rw [e0, hC0], World.ownsRow_nil ..⟩ ?round ?done ?stop
  case hput =>
    intro A B r o hA hk
    rw [hsz] at hA ⊢
    refine ⟨hk.os, hk.tape, hk.output, by simpa using hk.size, fun k hk1 hp => ?_⟩
    refine (World.putObj_heap_other ?_).trans (hk.row k hk1 hp)
    rintro rfl
    rcases hp with h | ⟨C, U, fr, _, h⟩
    · omega
    · rw [hA] at h; cases h
  case hI =>
    rintro s A B ⟨h4, v, h2, h3⟩ hk
    have hs := h4.size
    exact ⟨h4.trans (hk.toBelow (fun k hk' => ⟨id, by omega, by omega⟩) (by omega)), v, (hk.row _ (Array.getElem?_eq_some_iff.1 h2).1 ⟨id, by omega, by omega⟩).trans h2, own_same h3 (fun k hk1 hk2 => hk.row k hk2 ⟨id, by omega, by omega⟩)⟩
  case round =>
    rintro pre x W ⟨rest, hV⟩ ⟨h4, y, h2, h3⟩ hsW ⟨rl, hrl⟩
    rw [hsz] at hsW hrl ⊢
    have hlen : pre.length + 1 ≤ 900000 := by
      have := HN.out
      rw [hV, List.length_append, List.length_append, List.length_singleton] at this
      omega
    clear hsz hbw e0 e1 hC0 hC1 hV
    gi_wp2
    refine ⟨Kept.refl _ W, fun W2 hk2 hs2 => ?_⟩
    have b2 : W2.heap[w.heap.size]? = some (.cells #[y] 151) := (hk2.row _ (Array.getElem?_eq_some_iff.1 h2).1 (by omega)).trans h2
    have B3 := Lib.hid (own_same h3 (fun k hk1 hk2' => hk2.row k hk2' (by omega)))
    have B4 := Lib.hid (h4.trans (hk2.toBelow (n := w.heap.size) (fun k hk' => by omega) h4.size))
    have hst : Steady w.heap.size isNumT W W2 := ⟨hk2.size, fun k hk hp => hk2.row k hk (by
      rintro rfl
      rcases hp with h | ⟨C, U, fr, _, h⟩
      · omega
      · rw [hrl] at h; cases h)⟩
    have K2 := Lib.hid (And.intro hk2 hst)
    have hB4 : w.heap.size + 4 ≤ W2.heap.size := by omega
    clear hk2 h2 h3 h4 hs2 hst hrl
    have hB2 := B4.out.size
    obtain ⟨ao, co, rfl⟩ := own_slice B3.out
    have q1 := box_cell b2
    have q2 := box_frozen b2
    have Hb2 := Lib.hid b2
    clear b2
    obtain ⟨v', w5, hr, ho, hgr⟩ := run_append_u64 (w.heap.size + 4) (.slice ao pre.length co) pre.length pre (B3.out.alloc (.cells #[.int .u64 x] 24)) (some ⟨W2.heap.size, 0, none⟩) 1 1 [x] (rd_block (heap_at_new _ _ _ rfl) rfl rfl) (by omega) (by simp; omega)
    obtain ⟨g', cap', rfl⟩ := ownsRow_succ ho
    have hne : some w.heap.size ≠ (.slice ao pre.length co : Value).ownBlock := fun e => by have := (B3.out.lt _ e.symm).1; omega
    have e5 : w5.heap[w.heap.size]? = some (.cells #[.slice ao pre.length co] 151) := (hgr.block _ (by simp; omega) hne).trans (row_old Hb2.out)
    have q5 := box_cell e5
    have q6 := box_frozen e5
    have He5 := Lib.hid e5; have Ho := Lib.hid ho; have Hgr := Lib.hid hgr
    clear e5 ho hgr hne
    gi_wp2_with (gi_at_builtin; refine wpListIn_append_hr rfl _ _ 151 rfl _ _ rfl rfl _ _ hr ?_)
    refine ⟨?_, ⟨?_, _, box_set He5.out, ?_⟩, ?_⟩
    · exact (((Kept.refl _ W2).alloc _).grown Hgr.out (fun k hk _ => by have := (B3.out.lt k hk).1; omega)).setCell (fun _ => by simp only; omega) _
    · exact ((B4.out.alloc B4.out.size _).grown Hgr.out (by simp; omega) (fun k hk => by have := (B3.out.lt k hk).1; omega)).setCell (by simp only; omega) _
    · have h := own_same Ho.out (w' := w5.setCell ⟨w.heap.size, 0, none⟩ (.slice (some ⟨g', 0, none⟩) (pre.length + 1) cap')) (fun k hk1 hk2 => Below.heap_setCell _ _ _ _ (by simp only; omega))
      rw [List.length_append]
      exact h
    · have s1 : Steady w.heap.size isNumT W2 (W2.alloc (.cells #[.int .u64 x] 24)) := .of_below ((Below.refl _ _).alloc (Nat.le_refl _) _)
      have s2 : Steady w.heap.size isNumT (W2.alloc (.cells #[.int .u64 x] 24)) w5 := Steady.grown (own_mono (b := w.heap.size) (B3.out.alloc _) (by omega)) Hgr.out (by rintro (h | h | h) <;> cases h)
      have s3 : Steady w.heap.size isNumT w5 (w5.setCell ⟨w.heap.size, 0, none⟩ (.slice (some ⟨g', 0, none⟩) (pre.length + 1) cap')) := Steady.setCell (a := ⟨w.heap.size, 0, none⟩) He5.out (Nat.le_refl _) (by rintro (h | h | h) <;> cases h)
      refine KeptT.of (q := fun _ => False) (K2.out.1.mono (fun _ _ h => h.elim) |>.trans ?_) (((K2.out.2.trans s1).trans s2).trans s3)
      exact (((Kept.refl _ W2).alloc _).grown Hgr.out (fun k hk _ h => h)).setCell (fun _ h => h) _
  case done =>
    rintro ps W rfl ⟨h4, y, h2, h3⟩ hK
    have q1 := box_cell h2
    have H3 := Lib.hid h3; have H4 := Lib.hid h4
    clear h2 h3 h4 e0 e1
    gi_wp2
    go_wp2
    refine ⟨by simp, .inl ⟨_, _, rfl, run_takeDeferred hK, ?_⟩⟩
    refine ⟨_, results_tmp rfl _ _ _, ⟨y, rfl, ?_⟩, ?_⟩
    · refine own_mono (own_same H3.out (fun k hk1 hk2 => World.putObj_heap_other (by omega))) (by omega)
    · exact (Kept.refl (fun k => k < w.heap.size) W).putObj (fun _ h => by have h' : wl.heap.size < w.heap.size := h; omega) _ |>.toBelow (fun _ h => h) H4.out.size |> H4.out.trans
  case stop =>
    rintro c pre W hV h
    exact h.elim

end Go.Proofs.YtkkdlgcfcbaibaaGreatDoor
end

section
namespace Go.Proofs.YtkkdlgcfcbaibaaGreatDoor
open Go.RowKit
set_option linter.unusedVariables false

theorem isNaNi_any (x : Nat) (w : World) : Calls Tryz.prog 213 #[.int .i64 x] w fun e w' => e = .returned (.bool false) ∧ w' = w := by
  go_enter Tryz.func213, Tryz.ntmps213
  go_wp2
  go_ret
  exact ⟨by simp, rfl⟩

theorem cmpi_any (x y : Nat) (w : World) : Calls Tryz.prog 197 #[.int .i64 x, .int .i64 y] w fun e w' => e = .returned (.int .i64 (if x < y then -1 else if y < x then 1 else 0)) ∧ w' = w := by
  by_cases h1 : x < y
  · rw [if_pos h1]
    go_enter Tryz.func197, Tryz.ntmps197
    go_wp2_with (go_at_call 213; refine (isNaNi_any _ _).mono ?_; rintro e w1 ⟨rfl, rfl⟩)
    go_ret
    exact ⟨rfl, rfl⟩
  · rw [if_neg h1]
    by_cases h2 : y < x
    · rw [if_pos h2]
      go_enter Tryz.func197, Tryz.ntmps197
      go_wp2_with (go_at_call 213; refine (isNaNi_any _ _).mono ?_; rintro e w1 ⟨rfl, rfl⟩)
      go_ret
      exact ⟨rfl, rfl⟩
    · rw [if_neg h2]
      go_enter Tryz.func197, Tryz.ntmps197
      go_wp2_with (go_at_call 213; refine (isNaNi_any _ _).mono ?_; rintro e w1 ⟨rfl, rfl⟩)
      go_ret
      exact ⟨rfl, rfl⟩

set_option maxRecDepth 20000 in
set_option maxHeartbeats 4000000 in
theorem order_any (a d : Option Addr) (N c M c' : Nat) (P R : List Nat) (w : World) (hP : U64s w a N c P) (hR : U64s w d M c' R) :
    Calls Tryz.prog 166 #[.slice a N c, .slice d M c'] w fun e w' => e = .returned (.int .i64 (cmpN P R)) ∧ Below w.heap.size w w' := by
  have HP := Lib.hid hP; have HR := Lib.hid hR
  have HN := Lib.hid hP.len; have HM := Lib.hid hR.len
  have hNm : N ≤ 9223372036854775807 := Nat.le_trans hP.room hP.most
  have hMm : M ≤ 9223372036854775807 := Nat.le_trans hR.room hR.most
  clear hP hR
  obtain ⟨K, hK⟩ : ∃ K : Nat, K = min N M := ⟨_, rfl⟩
  have hK1 : K ≤ N := by omega
  have hK2 : K ≤ M := by omega
  have hK3 : K = N ∨ K = M := by omega
  have hmin : min (N : Int) (M : Int) = (K : Int) := by omega
  have HKc := Lib.hid hK3
  clear hK hK3
  go_enter Tryz.func166, Tryz.ntmps166
  go_wp2
  go_loopw [5, 11] (fun _ i wr => ∃ k : Nat, k ≤ K ∧ i = .int .i64 k ∧ Below w.heap.size w wr ∧ Hid (cmpN P R = cmpN (P.drop k) (R.drop k))) (fun _ i _ => K - (intOf i).toNat)
  case atStart => exact ⟨0, by omega, rfl, Below.refl _ _, rfl⟩
  case round =>
    obtain ⟨k, hk, rfl, hb, ht⟩ := hrel
    have Hb := Lib.hid hb; clear hb
    have h0 : (0 : Int) ≤ k := by omega
    by_cases hkK : k < K
    · have h1 : k < N := by omega
      have h2 : k < M := by omega
      have hst := cmpN_step (p := P) (q := R) (k := k) (by rw [HN.out]; exact h1) (by rw [HM.out]; exact h2)
      have Hst := Lib.hid (ht.out.trans hst)
      obtain ⟨b1, o1, rfl, hc1⟩ := (HP.out.below Hb.out).cells (by omega)
      obtain ⟨b2, o2, rfl, hc2⟩ := (HR.out.below Hb.out).cells (by omega)
      have q1 := hc1 k h1
      have q2 := hc2 k h2
      clear hst hc1 hc2
      generalize nth P k = x at *
      generalize nth R k = y at *
      have h01 : (k : Int) < (N : Int) := by omega
      have h02 : (k : Int) < (M : Int) := by omega
      have h03 : (k : Int) < (K : Int) := by omega
      have hcP := HP.out.room
      have hcR := HR.out.room
      by_cases hxy : x = y
      · subst hxy
        rw [if_neg (Nat.lt_irrefl _), if_neg (Nat.lt_irrefl _)] at Hst
        go_wp2
        go_quiet (fail)
        go_wp2
        go_roundw
        case rel => exact ⟨k + 1, by omega, by go_num, by first | exact Hb.out | exact below_drewN' Hb.out _, Hst.out⟩
        case measure => simp [intOf]; omega
      · have hne : ((x : Int) != (y : Int)) = true := by rw [bne_iff_ne]; omega
        have Hci := Lib.hid (show Lib.compareInt (x : Int) (y : Int) = cmpN P R from by
          rw [Hst.out]
          unfold Lib.compareInt
          by_cases hlt : x < y
          · rw [if_pos (by omega), if_pos hlt]
          · rw [if_neg (by omega), if_neg hlt, if_pos (by omega), if_pos (by omega)])
        have hC := Lib.hid (fun w' => cmp_any x y w')
        rw [Hci.out] at hC
        generalize hzz : cmpN P R = z at *
        have Hzz := Lib.hid hzz
        clear hzz
        have hq1 := Lib.hid (fun w' (h : Below wr.heap.size wr w') => (h.cell (p := ⟨b1, o1 + k, none⟩) (cell_lt q1)).trans q1)
        have hq2 := Lib.hid (fun w' (h : Below wr.heap.size wr w') => (h.cell (p := ⟨b2, o2 + k, none⟩) (cell_lt q2)).trans q2)
        clear hxy
        go_wp2
        go_quiet (fail)
        go_wp2_with fail
        refine wp_region_below (by kernel_rfl) (by kernel_rfl) ?_
        repeat (go_big_quiet_step ((intro hw; first
          | rfl
          | (have q3 := hq1.out _ (by first | exact hw | exact Below.trans (below_drewN' (Below.refl _ _) _) hw)
             have q4 := hq2.out _ (by first | exact hw | exact Below.trans (below_drewN' (Below.refl _ _) _) hw)
             first
             | (go_at_call 41; refine (hC.out _).mono ?_; rintro e w4 ⟨rfl, rfl⟩; exact ⟨rfl, hw⟩)
             | (go_simp
                first | rfl | exact ⟨rfl, hw⟩ | (trace_state; fail))))))
        refine wpQuiet_nil ?_
        intro w3 hb3
        go_wp2
        go_ret
        exact ⟨by rw [Hzz.out]; rfl, Hb.out.trans ((by first | exact hb3 | exact Below.trans (below_drewN' (Below.refl _ _) _) hb3 : Below wr.heap.size wr w3).mono Hb.out.size)⟩
    · obtain rfl : k = K := by omega
      have Hz := Lib.hid (ht.out.trans (cmpN_end (by rw [HN.out]; omega) (by rw [HM.out]; omega) (by rw [HN.out, HM.out]; exact HKc.out)))
      rw [HN.out, HM.out] at Hz
      have hK := Lib.hid (fun w' => cmpi_any N M w')
      obtain ⟨zz, hzz⟩ : ∃ zz : Int, zz = if N < M then -1 else if M < N then 1 else 0 := ⟨_, rfl⟩
      rw [← hzz] at hK Hz
      clear hzz
      go_wp2_with fail
      refine (hK.out _).mono ?_
      rintro e w1 ⟨rfl, rfl⟩
      go_wp2
      go_ret
      exact ⟨by rw [Hz.out]; rfl, Hb.out⟩

/-- What may be compared. -/
theorem vecCompare_any (a d : Option Addr) (n c n' c' : Nat) (v u : Vec) (w : World) (hE : Ents w a n c v) (hF : Ents w d n' c' u) (fv : VecFits v) (fu : VecFits u) :
    Calls Tryz.prog 118 #[.slice a n c, .slice d n' c'] w fun x w' => x = .returned (.int .i64 (cmpV v u)) ∧ Below w.heap.size w w' := by
  have hC := Lib.hid (vecNumbers_any a n c v w hE (by rw [← hE.len]; exact fv.len) (fits_num fv))
  have hD := Lib.hid (fun w' (h : Below w.heap.size w w') => vecNumbers_any d n' c' u w' (hF.below h) (by rw [← hF.len]; exact fu.len) (fits_num fu))
  have Hpl := Lib.hid (lt_num hE.lt fv); have Hql := Lib.hid (lt_num hF.lt fu)
  have Hcv := Lib.hid (show cmpV v u = cmpN (numV v) (numV u) from rfl)
  clear hE hF fv fu
  generalize numV v = P at *
  generalize numV u = R at *
  go_enter Tryz.func118, Tryz.ntmps118
  go_wp2_with fail
  refine hC.out.mono ?_
  rintro e w1 ⟨⟨y, rfl, ho1⟩, hb1⟩
  have Hb1 := Lib.hid hb1
  obtain ⟨aP, cP, rfl, hU1⟩ := u64s_own ho1 Hpl.out
  have HU1 := Lib.hid hU1
  clear hb1 ho1 hU1
  go_wp2_with fail
  refine (hD.out _ Hb1.out).mono ?_
  rintro e w2 ⟨⟨y, rfl, ho2⟩, hb2⟩
  have Hb2 := Lib.hid (Hb1.out.trans (hb2.mono Hb1.out.size))
  obtain ⟨aR, cR, rfl, hU2⟩ := u64s_own ho2 Hql.out
  have HUp := Lib.hid (HU1.out.below hb2)
  have HUr := Lib.hid hU2
  clear hb2 ho2 hU2
  go_wp2_with fail
  refine (order_any _ _ _ _ _ _ P R _ HUp.out HUr.out).mono ?_
  rintro e w3 ⟨rfl, hb3⟩
  have Hb3 := Lib.hid (Hb2.out.trans (hb3.mono Hb2.out.size)); clear hb3
  go_wp2
  go_ret
  exact ⟨by rw [Hcv.out]; rfl, Hb3.out⟩

end Go.Proofs.YtkkdlgcfcbaibaaGreatDoor
end

section
namespace Go.Proofs.YtkkdlgcfcbaibaaGreatDoor
open Go.RowKit Go.Shelf
attribute [local go_sem] Oper.semAt_some wide_fn
set_option linter.unusedVariables false

theorem with_any (a : Option Addr) (n c t : Nat) (w : World) : Calls Tryz.prog 159 #[.slice a n c, .int .u64 t] w fun e w' =>
    e = .returned (.func (.func 193) #[] #[.pointer (some ⟨w.heap.size, 0, none⟩), .pointer (some ⟨w.heap.size + 1, 0, none⟩)]) ∧ w' = (w.alloc (.cells #[.slice a n c] 23)).alloc (.cells #[.int .u64 t] 24) := by
  go_enter Tryz.func159, Tryz.ntmps159
  go_wp2
  go_ret
  exact ⟨by simp, rfl⟩

theorem box2' (w : World) (x y : Value) (T : TypeId) (w' : World) (h : Below (w.alloc (.cells #[x, y] T)).heap.size (w.alloc (.cells #[x, y] T)) w') :
    w'.cell? ⟨w.heap.size, 0, none⟩ = some x ∧ w'.cell? ⟨w.heap.size, 1, none⟩ = some y := by
  have hrow : (w.alloc (.cells #[x, y] T)).heap[w.heap.size]? = some (.cells #[x, y] T) := row_new rfl
  exact ⟨(h.cell (p := ⟨w.heap.size, 0, none⟩) (by simp)).trans (cells_cell (i := 0) hrow rfl),
    (h.cell (p := ⟨w.heap.size, 1, none⟩) (by simp)).trans (cells_cell (i := 1) hrow rfl)⟩

abbrev WEl := Nat × Value × Value
def wEnc (x : WEl) : Array Value := #[.int .i64 ((x.1 : Nat) : Int), .agg #[x.2.1, x.2.2]]
/-- The slices of a fragment. -/
def SlOf (w : World) (k : Kno) (x : WEl) : Prop := (∃ a n c, x.2.1 = .slice a n c ∧ Ivs w a n c (nthF k x.1).1) ∧ ∃ a n c, x.2.2 = .slice a n c ∧ Ents w a n c (nthF k x.1).2

set_option maxRecDepth 20000 in
set_option maxHeartbeats 4000000 in
theorem with_seq (n : Nat) (w0 w : World) (bk bt : Nat) (a : Option Addr) (m c t : Nat) (k : Kno) (hE : Frags w0 a m c k) (hG : ∀ f ∈ k, Good f.1 ∧ f.1.length ≤ 1000000) (hb0 : Below w0.heap.size w0 w) (hm : m ≤ 500)
    (hbk : w.heap[bk]? = some (.cells #[.slice a m c] 23)) (hbt : w.heap[bt]? = some (.cells #[.int .u64 t] 24)) :
    SeqW n Tryz.prog 193 #[.pointer (some ⟨bk, 0, none⟩), .pointer (some ⟨bt, 0, none⟩)] wEnc
      (fun pre => (∃ rest, membersK k t = pre.map (·.1) ++ rest) ∧ ∀ x ∈ pre, SlOf w0 k x) (fun xs => membersK k t = xs.map (·.1) ∧ ∀ x ∈ xs, SlOf w0 k x)
      (fun _ => False) (fun k => k < w0.heap.size ∨ k = bk ∨ k = bt) w := by
  intro l J Jx W hl hW hJ hJx hY h0
  have H0 := Lib.hid (hb0.trans (hW.mono hb0.size))
  have hrk := (hW.block bk (Array.getElem?_eq_some_iff.1 hbk).1).trans hbk
  have hrt := (hW.block bt (Array.getElem?_eq_some_iff.1 hbt).1).trans hbt
  have Hrt := Lib.hid hrt
  have HE := Lib.hid hE
  have Hl := Lib.hid hE.len
  have HG := Lib.hid hG
  have HJ := Lib.hid (fun s A B (h : J s A) (hb : Below A.heap.size A B) => hJ s A B h ((Kept.refl _ A).below hb))
  have HY := Lib.hid hY; have Hj0 := Lib.hid h0
  clear hE hb0 hbk hbt hW hJ hJx hY h0 hl hG hrt
  refine callsIn_of_wp Tryz.func193 rfl trivial ?_ rfl
  simp only [Tryz.ntmps193, List.size_toArray, List.length_cons, List.length_nil, Nat.reduceAdd, Nat.reduceSub, Array.replicate_succ, Array.replicate_zero, List.push_toArray, List.append_toArray, List.nil_append, List.cons_append]
  have q1 := box_cell hrk
  clear hrk
  gi_wp2
  clear q1
  gi_loopw [4, 5, 8] (fun _ _ i wr => ∃ d : Nat, d ≤ m ∧ i = .int .i64 d ∧ Hid (Below w0.heap.size w0 wr ∧ wr.heap[bt]? = some (.cells #[.int .u64 t] 24) ∧ ∃ pre, J pre wr ∧ memTo k t d = pre.map (·.1) ∧ ∀ x ∈ pre, SlOf w0 k x)) (fun _ _ i _ => m - (intOf i).toNat)
  case atStart => exact ⟨0, by omega, rfl, H0.out, Hrt.out, [], Hj0.out, rfl, fun x hx => by cases hx⟩
  case round =>
    obtain ⟨d, hd, rfl, hinv⟩ := hrel
    obtain ⟨hb, hrt, pre, hj, hpre, hsl⟩ := hinv.out
    by_cases hdm : d < m
    · have hdk : d < k.length := by rw [Hl.out]; exact hdm
      obtain ⟨bb, oo, rfl⟩ := HE.out.some (by omega)
      obtain ⟨x, n1, c1, y, n2, c2, hq⟩ := HE.out.fix hdm
      obtain ⟨q1, hI, q2, hV⟩ := hq wr hb
      have Hsl0 := Lib.hid (show SlOf w0 k (d, .slice x n1 c1, .slice y n2 c2) from ⟨⟨_, _, _, rfl, (hq w0 (Below.refl _ _)).2.1⟩, _, _, _, rfl, (hq w0 (Below.refl _ _)).2.2.2⟩)
      have Hst := Lib.hid (memTo_succ k t d)
      have Hmem := Lib.hid (show mem (nthF k d).1 t = true → ∃ rest, membersK k t = memTo k t d ++ [d] ++ rest from fun h => by
        have h1 : membersK k t = memTo k t k.length := rfl
        have h2 : ∀ e, memTo k t (d + 1 + e) = memTo k t (d + 1) ++ ((List.range e).map (d + 1 + ·)).filter fun i => mem (nthF k i).1 t := by
          intro e
          unfold memTo
          rw [List.range_add, List.filter_append]
        obtain ⟨e, he⟩ : ∃ e, k.length = d + 1 + e := ⟨k.length - (d + 1), by omega⟩
        rw [h1, he, h2, memTo_succ, if_pos h]
        exact ⟨_, rfl⟩)
      have hal : Below wr.heap.size wr (wr.alloc (.cells #[.slice x n1 c1, .slice y n2 c2] 39)) := (Below.refl _ _).alloc (Nat.le_refl _) _
      have hg := HG.out _ (nthF_mem hdk)
      have hC := Lib.hid (has_any x n1 c1 t (nthF k d).1 _ (hI.below hal) hg.1 (by rw [← hI.len]; exact hg.2))
      have Hal := Lib.hid hal
      have hz1 : (wr.alloc (.cells #[.slice x n1 c1, .slice y n2 c2] 39)).cell? ⟨bt, 0, none⟩ = some (.int .u64 t) := box_cell (row_old hrt)
      have Hb := Lib.hid hb; have Hrt := Lib.hid hrt; have Hj := Lib.hid hj; have Hpre := Lib.hid hpre; have Hsl := Lib.hid hsl
      have h0d : (0 : Int) ≤ d := by omega
      have h04 : (d : Int) < (m : Int) := by omega
      clear hb hrt hj hpre hsl hq hI hV hinv hal hg
      generalize mem (nthF k d).1 t = b at *
      gi_wp2_with fail
      refine ⟨fun h => (by cases h), (callsIn_wide.2 hC.out).mono ?_⟩
      rintro e w1 ⟨rfl, hb1⟩
      have Hb1 := Lib.hid hb1; clear hb1 hz1 q1 q2
      have Hw1 := Lib.hid (Hal.out.trans (Hb1.out.mono Hal.out.size))
      have Hb1w := Lib.hid (Hb.out.trans (Hw1.out.mono Hb.out.size))
      have Hrt1 := Lib.hid ((Hw1.out.block _ (Array.getElem?_eq_some_iff.1 Hrt.out).1).trans Hrt.out)
      have Hj1 := Lib.hid (HJ.out _ _ _ Hj.out Hw1.out)
      obtain ⟨f0, f1⟩ := box2' wr (.slice x n1 c1) (.slice y n2 c2) 39 w1 Hb1.out
      cases b with
      | false =>
        rw [if_neg (by simp), List.append_nil] at Hst
        gi_wp2
        go_roundw
        case rel => exact ⟨d + 1, by omega, by go_num, Hb1w.out, Hrt1.out, pre, Hj1.out, by rw [Hst.out]; exact Hpre.out, Hsl.out⟩
        case measure => simp [intOf]; omega
      | true =>
        rw [if_pos rfl] at Hst
        have hmm := Hmem.out rfl
        obtain ⟨rest, hrest⟩ := hmm
        have hV : (∃ rest, membersK k t = (pre ++ [((d, .slice x n1 c1, .slice y n2 c2) : WEl)]).map (·.1) ++ rest) ∧ ∀ x' ∈ pre ++ [((d, .slice x n1 c1, .slice y n2 c2) : WEl)], SlOf w0 k x' := by
          refine ⟨⟨rest, by rw [hrest, Hpre.out, List.map_append]; rfl⟩, fun x' hx' => ?_⟩
          rcases List.mem_append.1 hx' with h | h
          · exact Hsl.out x' h
          · rw [List.mem_singleton] at h; rw [h]; exact Hsl0.out
        have HV := Lib.hid hV
        obtain ⟨fn, tmps, assign, body, hy, hR⟩ := HY.out pre (d, .slice x n1 c1, .slice y n2 c2) w1 hV Hj1.out
        simp only [wEnc] at hy
        clear hV hrest
        gi_wp2
        first | refine hR.mono ?_ | refine ⟨fun h => (by cases h), hR.mono ?_⟩
        rintro e W3 (⟨rfl, hJ3, hk3⟩ | ⟨rfl, hJx3⟩)
        · have H3 := Lib.hid (show Below w0.heap.size w0 W3 ∧ W3.heap[bt]? = some (.cells #[.int .u64 t] 24) ∧ ∃ pre, J pre W3 ∧ memTo k t (d + 1) = pre.map (·.1) ∧ ∀ x ∈ pre, SlOf w0 k x from
            ⟨Hb1w.out.trans (hk3.toBelow (fun k hk => .inl hk) Hb1w.out.size), (hk3.row _ (Array.getElem?_eq_some_iff.1 Hrt1.out).1 (.inr (.inr rfl))).trans Hrt1.out, _, hJ3, by rw [Hst.out, Hpre.out, List.map_append]; rfl, HV.out.2⟩)
          clear hJ3 hk3 hy hR f0 f1
          gi_wp2
          go_roundw
          case rel => exact ⟨d + 1, by omega, by go_num, H3.out⟩
          case measure => simp [intOf]; omega
        · have HX := Lib.hid (show ∃ pre, ((∃ rest, membersK k t = pre.map (·.1) ++ rest) ∧ ∀ x ∈ pre, SlOf w0 k x) ∧ Jx pre W3 from ⟨_, HV.out, hJx3⟩)
          clear hJx3 hy hR f0 f1
          gi_wp2
          go_wp2
          refine bodyPost_ret (results_none rfl _ _ _) rfl ?_
          exact ⟨⟨_, rfl⟩, .inr HX.out⟩
    · obtain rfl : d = m := by omega
      have HF := Lib.hid (show ∃ xs, (membersK k t = xs.map (·.1) ∧ ∀ x ∈ xs, SlOf w0 k x) ∧ J xs wr from ⟨pre, ⟨by rw [← hpre, ← Hl.out]; rfl, hsl⟩, hj⟩)
      clear hb hrt hj hpre hsl hinv
      gi_wp2
      refine bodyPost_end (results_none rfl _ _ _) rfl ?_
      exact ⟨⟨_, rfl⟩, .inl HF.out⟩

end Go.Proofs.YtkkdlgcfcbaibaaGreatDoor
end

section
namespace Go.Proofs.YtkkdlgcfcbaibaaGreatDoor
open Go.RowKit
set_option linter.unusedVariables false

theorem addC_any (s1 : Value) (y b : Option Addr) (m c m' c' : Nat) (v u : Vec) (w : World) (hV : Ents w y m c v) (hU : Ents w b m' c' u) (fv : VecFits v) (fu : VecFits u) :
    Calls Tryz.prog 153 #[.agg #[s1, .slice y m c], .slice b m' c'] w fun x w' => x = .returned (.int .i64 (cmpV v u)) ∧ Below w.heap.size w w' := by
  have hal : Below w.heap.size w (w.alloc (.cells #[s1, .slice y m c] 39)) := (Below.refl w.heap.size w).alloc (Nat.le_refl _) _
  have hC := Lib.hid (vecCompare_any y b m c m' c' v u _ (hV.below hal) (hU.below hal) fv fu)
  obtain ⟨q0, q1⟩ := box2' w s1 (.slice y m c) 39 _ (Below.refl _ _)
  have Hal := Lib.hid hal
  generalize cmpV v u = z at *
  clear hV hU fv fu hal
  go_enter Tryz.func153, Tryz.ntmps153
  go_wp2_with fail
  refine hC.out.mono ?_
  rintro e w1 ⟨rfl, hb1⟩
  have Hb1 := Lib.hid hb1; clear hb1
  go_wp2
  go_ret
  exact ⟨rfl, Hal.out.trans (Hb1.out.mono Hal.out.size)⟩

theorem vec_mono {k : Kno} (h : k.Pairwise VecLt) {i j : Nat} (hij : i < j) (hj : j < k.length) : cmpV (nthF k i).2 (nthF k j).2 = -1 := by
  have := List.pairwise_iff_getElem.1 h i j (by omega) hj hij
  rw [nthF_get (by omega), nthF_get hj]
  exact this

set_option maxHeartbeats 4000000 in
set_option maxRecDepth 20000 in
theorem bsK_any (a b : Option Addr) (n cap m c : Nat) (k : Kno) (v : Vec) (w : World) (hE : Frags w a n cap k) (hV : Ents w b m c v) (hA : k.Pairwise VecLt) (hn : n ≤ 1000000) (fk : ∀ f ∈ k, VecFits f.2) (fv : VecFits v) :
    Calls Tryz.prog 152 #[.slice a n cap, .slice b m c, .func (.func 153) #[] #[]] w fun e w' =>
      e = .returned (.tuple #[.int .i64 (posG k v : Int), .bool (hitG k v)]) ∧ Below w.heap.size w w' := by
  have HE := Lib.hid hE; have HA := Lib.hid hA
  have HV := Lib.hid hV; have HFk := Lib.hid fk; have HFv := Lib.hid fv
  have Hl := Lib.hid hE.len
  clear hE hA hV fk fv
  go_enter Tryz.func152, Tryz.ntmps152
  go_wp2
  go_loopw [9, 10, 11] (fun i j _ wr => ∃ p q : Nat, p ≤ q ∧ q ≤ n ∧ i = .int .i64 p ∧ j = .int .i64 q ∧ Below w.heap.size w wr ∧ Hid ((∀ t, t < p → cmpV (nthF k t).2 v = -1) ∧ ∀ t, q ≤ t → t < n → cmpV (nthF k t).2 v ≠ -1)) (fun i j _ _ => (intOf j).toNat - (intOf i).toNat)
  case atStart => exact ⟨0, n, by omega, by omega, rfl, rfl, Below.refl _ _, fun t ht => by omega, fun t h1 h2 => by omega⟩
  case round =>
    obtain ⟨p, q, hpq, hqn, rfl, rfl, hb, ht⟩ := hrel
    have Hb := Lib.hid hb; clear hb
    have HEr := Lib.hid (HE.out.below Hb.out)
    by_cases hlt : p < q
    · obtain ⟨bb, oo, rfl⟩ := HEr.out.some (by omega)
      obtain ⟨h, hh, hph, hhq⟩ : ∃ h : Nat, ((p : Int) + (q : Int)) / 2 = (h : Int) ∧ p ≤ h ∧ h < q := ⟨(p + q) / 2, by omega, by omega, by omega⟩
      have hhn : h < n := by omega
      have hhk : h < k.length := by rw [Hl.out]; exact hhn
      obtain ⟨x, m1, c1, y, m2, c2, hq⟩ := HEr.out.fix hhn
      obtain ⟨hc1, -, hc2, hyV⟩ := hq _ (Below.refl _ _)
      clear hq
      have hC := Lib.hid (addC_any (.slice x m1 c1) y b m2 c2 m c (nthF k h).2 v wr hyV (HV.out.below Hb.out) (HFk.out _ (nthF_mem hhk)) HFv.out)
      have Hms := Lib.hid (fun t (ht : t < h) => vec_mono HA.out ht hhk)
      have Hms2 := Lib.hid (fun t (ht : h < t) (htl : t < n) => vec_mono HA.out ht (by rw [Hl.out]; exact htl))
      have hrg := cmpV_range (nthF k h).2 v
      clear hyV
      by_cases hlx : cmpV (nthF k h).2 v = -1
      · have Hr := Lib.hid (show ∀ t, t < h + 1 → cmpV (nthF k t).2 v = -1 from by
          intro t htt
          by_cases e : t = h
          · subst e; exact hlx
          · exact cmpV_trans (Hms.out t (by omega)) hlx)
        have hci : decide (cmpV (nthF k h).2 v < 0) = true := by rw [hlx]; rfl
        generalize cmpV (nthF k h).2 v = ci at *
        clear hlx hrg
        go_wp2_with fail
        refine hC.out.mono ?_
        rintro e w1 ⟨rfl, hb1⟩
        have Hb1 := Lib.hid (Hb.out.trans (hb1.mono Hb.out.size)); clear hb1
        clear hc1 hc2 hh
        go_wp2_with fail
        go_roundw
        case rel => exact ⟨h + 1, q, by omega, by omega, by go_num, rfl, Hb1.out, Hr.out, ht.out.2⟩
        case measure => simp [intOf]; omega
      · have Hr := Lib.hid (show ∀ t, h ≤ t → t < n → cmpV (nthF k t).2 v ≠ -1 from by
          intro t htt htn
          by_cases e : t = h
          · subst e; exact hlx
          · intro h2
            exact hlx (cmpV_trans (Hms2.out t (by omega) htn) h2))
        have hci : decide (cmpV (nthF k h).2 v < 0) = false := by
          rw [decide_eq_false_iff_not]; rcases hrg with h | h | h <;> omega
        generalize cmpV (nthF k h).2 v = ci at *
        clear hlx hrg
        go_wp2_with fail
        refine hC.out.mono ?_
        rintro e w1 ⟨rfl, hb1⟩
        have Hb1 := Lib.hid (Hb.out.trans (hb1.mono Hb.out.size)); clear hb1
        clear hc1 hc2 hh
        go_wp2_with fail
        go_roundw
        case rel => exact ⟨p, h, by omega, by omega, rfl, rfl, Hb1.out, ht.out.1, Hr.out⟩
        case measure => simp [intOf]; omega
    · obtain rfl : p = q := by omega
      by_cases hpn : p < n
      · obtain ⟨bb, oo, rfl⟩ := HEr.out.some (by omega)
        have hpk : p < k.length := by rw [Hl.out]; exact hpn
        have hpos : p = posG k v := posG_unique (by omega) ht.out.1 (fun h => ht.out.2 p (Nat.le_refl _) hpn)
        have hhit := (posG_at (k := k) (v := v) (by rw [← hpos]; exact hpk)).2
        rw [← hpos] at hhit
        have Hpos := Lib.hid hpos; have Hhit := Lib.hid hhit
        obtain ⟨x, m1, c1, y, m2, c2, hq⟩ := HEr.out.fix hpn
        obtain ⟨hc1, -, hc2, hyV⟩ := hq _ (Below.refl _ _)
        clear hq
        have hC := Lib.hid (addC_any (.slice x m1 c1) y b m2 c2 m c (nthF k p).2 v wr hyV (HV.out.below Hb.out) (HFk.out _ (nthF_mem hpk)) HFv.out)
        have hd : decide (p < n) = true := by rw [decide_eq_true_iff]; exact hpn
        have hci : (cmpV (nthF k p).2 v == 0) = decide (cmpV (nthF k p).2 v = 0) := by
          by_cases h : cmpV (nthF k p).2 v = 0
          · rw [h]; rfl
          · rw [decide_eq_false h, beq_eq_false_iff_ne]; exact h
        have Hci := Lib.hid hci
        generalize cmpV (nthF k p).2 v = ci at *
        clear hyV hpos hhit hci
        go_wp2_with fail
        refine hC.out.mono ?_
        rintro e w1 ⟨rfl, hb1⟩
        have Hb1 := Lib.hid (Hb.out.trans (hb1.mono Hb.out.size)); clear hb1
        clear hc1 hc2
        go_wp2
        go_ret2
        exact ⟨by rw [Hhit.out, ← Hci.out, ← Hpos.out]; rfl, Hb1.out⟩
      · obtain rfl : p = n := by omega
        have hpos : k.length = posG k v := posG_unique (Nat.le_refl _) (fun j hj => ht.out.1 j (by rw [← Hl.out]; exact hj)) (fun h => by omega)
        have hhit := hitG_end hpos.symm
        have Hr := Lib.hid (show (Value.tuple #[.int .i64 (p : Int), .bool false]) = .tuple #[.int .i64 (posG k v : Int), .bool (hitG k v)] from by rw [← hpos, hhit, Hl.out])
        have hd : decide (p < p) = false := by simp
        clear hpos hhit
        go_wp2
        go_ret2
        exact ⟨by rw [← Hr.out]; rfl, Hb.out⟩

end Go.Proofs.YtkkdlgcfcbaibaaGreatDoor
end
