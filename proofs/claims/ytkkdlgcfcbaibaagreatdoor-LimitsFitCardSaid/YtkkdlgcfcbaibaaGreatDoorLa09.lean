/- Walks and laws, joined: La09. -/
import Derived.Sort.CutIn
import Derived.Test.YtkkdlgcfcbaibaaGreatDoorLa08
set_option linter.unusedVariables false
namespace Go.Proofs.YtkkdlgcfcbaibaaGreatDoor
section
open Go.RowKit Go.Shelf
attribute [local go_sem] Oper.semAt_some wide_fn
set_option maxHeartbeats 1000000 in
theorem union1_any (x y : Bool) (w : World) : Calls Tryz.prog 120 #[.agg #[.bool x, .bool y]] w fun e w' => e = .returned (.bool (gOr x y)) ∧ Below w.heap.size w w' := by
 cases x <;> cases y <;>
 (go_enter Tryz.func120, Tryz.ntmps120
  go_wp2
  all_goals go_ret
  all_goals exact ⟨rfl, by first | exact (Below.refl _ _).alloc (Nat.le_refl _) _ | exact below_drewN' ((Below.refl _ _).alloc (Nat.le_refl _) _) _⟩)
set_option maxRecDepth 20000 in
set_option maxHeartbeats 4000000 in
theorem merge_gOr (aa ab : Option Addr) (na ca nb cb : Nat) (a b : List Iv) (w : World) (hIa : Ivs w aa na ca a) (hIb : Ivs w ab nb cb b) (ga : Good a) (gb : Good b) (hn : 2 * a.length + 2 * b.length + 1 ≤ 900000) :
 Calls Tryz.prog 119 #[.slice aa na ca, .slice ab nb cb, .func (.func 120) #[] #[]] w fun e w' =>
  (∃ v, e = .returned v ∧ w'.ownsRow w.heap.size 73 2 v (opL gOr a b).length (ivC (opL gOr a b))) ∧ Below w.heap.size w w' := by
 have Hla := Lib.hid (show Lt64 a from hIa.lt); have Hlb := Lib.hid (show Lt64 b from hIb.lt)
 have HIa := Lib.hid hIa; have HIb := Lib.hid hIb; have Hga := Lib.hid ga; have Hgb := Lib.hid gb
 have Hn := Lib.hid hn
 clear hIa hIb ga gb hn
 refine (callsIn_wide (n := 3)).1 ?_
 refine callsIn_of_wp_marks Tryz.func119 rfl trivial ?_ rfl
 simp only [Tryz.ntmps119, List.size_toArray, List.length_cons, List.length_nil, Nat.reduceAdd, Nat.reduceSub, Array.replicate_succ, Array.replicate_zero, List.push_toArray, List.append_toArray, List.nil_append, List.cons_append]
 refine wpIn_wide.2 ?_
 go_wp2_with (go_at_call 168; refine (pieces_any _ _ _ _ _ _ _).mono ?_; rintro e w1 ⟨rfl, rfl⟩)
 refine (wpIn_wide (n := 3)).1 ?_
 obtain ⟨C0, hC0⟩ : ∃ C0 : Obj, C0 = .cells #[.func (.func 120) #[] #[]] 167 := ⟨_, rfl⟩
 obtain ⟨C1, hC1⟩ : ∃ C1 : Obj, C1 = .cells #[.slice none 0 0] 28 := ⟨_, rfl⟩
 obtain ⟨C2, hC2⟩ : ∃ C2 : Obj, C2 = .cells #[.slice aa na ca] 28 := ⟨_, rfl⟩
 obtain ⟨C3, hC3⟩ : ∃ C3 : Obj, C3 = .cells #[.slice ab nb cb] 28 := ⟨_, rfl⟩
 rw [← hC0, ← hC1, ← hC2, ← hC3]
 obtain ⟨wl, hwl⟩ : ∃ wl : World, wl = (((w.alloc C0).alloc C1).alloc C2).alloc C3 := ⟨_, rfl⟩
 rw [← hwl]
 have hsz : wl.heap.size = w.heap.size + 4 := by rw [hwl]; simp
 have hbw : Below w.heap.size w wl := by
  rw [hwl]
  exact ((((Below.refl _ w).alloc (Nat.le_refl _) C0).alloc (by simp) C1).alloc (by simp; omega) C2).alloc (by simp; omega) C3
 have e0 : wl.heap[w.heap.size]? = some C0 := by rw [hwl]; exact row_old (row_old (row_old (row_new rfl)))
 have e1 : wl.heap[w.heap.size + 1]? = some C1 := by rw [hwl]; exact row_old (row_old (row_new (by simp)))
 have e2 : wl.heap[w.heap.size + 2]? = some C2 := by rw [hwl]; exact row_old (row_new (by simp))
 have e3 : wl.heap[w.heap.size + 3]? = some C3 := by rw [hwl]; exact row_new (by simp)
 clear hwl
 refine wp_range (n := 3) (gf := 199) (lb := #[.pointer (some ⟨w.heap.size + 2, 0, none⟩), .pointer (some ⟨w.heap.size + 3, 0, none⟩)]) rfl (enters_of Tryz.func199 (by kernel_rfl) rfl)
  (pieces_seq (3 - 1) w wl (w.heap.size + 2) (w.heap.size + 3) a b Hga.out Hgb.out hbw ⟨aa, na, ca, by rw [e2, hC2], HIa.out⟩ ⟨ab, nb, cb, by rw [e3, hC3], HIb.out⟩ (by omega) (by omega) (by omega))
  (fun x => rfl) (fun k hk => by omega) (fun k hk => by omega)
  (fun pre W => W.heap[w.heap.size]? = some C0 ∧ Below w.heap.size w W ∧ ∃ v, W.heap[w.heap.size + 1]? = some (.cells #[v] 28) ∧ W.ownsRow (w.heap.size + 6) 73 2 v (pickP gOr pre).length (ivC (pickP gOr pre)))
  (fun _ _ _ => False) ?hI (fun _ _ _ _ h _ => h) ⟨e0, hbw, .slice none 0 0, by rw [e1, hC1], World.ownsRow_nil ..⟩ ?round ?done ?stop
 case hI =>
  rintro s A B ⟨h1, h4, v, h2, h3⟩ hk
  have hs := h4.size
  exact ⟨(hk.row _ (Array.getElem?_eq_some_iff.1 h1).1 (by omega)).trans h1, h4.trans (hk.toBelow (fun k hk' => by omega) (by omega)), v, (hk.row _ (Array.getElem?_eq_some_iff.1 h2).1 (by omega)).trans h2, own_same h3 (fun k hk1 hk2 => hk.row k hk2 (by omega))⟩
 case round =>
  rintro pre ⟨⟨p, q⟩, x, y⟩ W ⟨Y, hV⟩ ⟨h1, h4, v, h2, h3⟩ hsW
  rw [hsz] at hsW ⊢
  clear hsz
  have HC0 := Lib.hid hC0
  clear hbw e0 e1 e2 e3 hC0 hC1 hC2 hC3
  have hp : q < 18446744073709551616 ∧ p ≤ q := by obtain ⟨_, k1, k2, _⟩ := chn_init hV; exact ⟨k2, k1⟩
  obtain ⟨hm1, hm2, hm3, hm4⟩ := pickP_mid (g := gOr) (chn_init hV).1
  have hml := Nat.le_trans (pickP_len gOr pre) (chn_len (chn_init hV).1)
  have Hlen := Lib.hid (Nat.le_trans hml Hn.out)
  have HsP := Lib.hid (pickP_snoc gOr pre ((p, q), x, y))
  have Hm3 := Lib.hid hm3
  have Hm1 := Lib.hid hm1
  clear hm1 hm2 hm3 hm4 hml hV
  have H3 := Lib.hid h3; have H4 := Lib.hid h4
  have h4s := h4.size
  clear h3 h4
  obtain ⟨m, hm⟩ : ∃ m : Nat, m = W.heap.size := ⟨_, rfl⟩
  simp only [pcE, ivV]
  gi_wp2
  refine ⟨((Kept.refl _ W).alloc _).alloc _, fun W2 hk2 hs2 => ?_⟩
  try rw [World.size_alloc, World.size_alloc] at hs2
  have k1 : Kept (fun k => k ≠ w.heap.size + 4 + 1) W W2 := (((Kept.refl _ W).alloc _).alloc _).trans hk2
  have b1 : W2.heap[w.heap.size]? = some C0 := (k1.row _ (Array.getElem?_eq_some_iff.1 h1).1 (by omega)).trans h1
  have b2 : W2.heap[w.heap.size + 1]? = some (.cells #[v] 28) := (k1.row _ (Array.getElem?_eq_some_iff.1 h2).1 (by omega)).trans h2
  have b3 : W2.heap[m]? = some (.cells #[.int .u64 p, .int .u64 q] 73) := by rw [hm]; exact (hk2.row _ (by simp <;> omega) (by omega)).trans (row_old (row_new rfl))
  have b4 : W2.heap[m + 1]? = some (.cells #[.bool x, .bool y] 166) := by rw [hm]; exact (hk2.row _ (by simp <;> omega) (by omega)).trans (row_new (by simp))
  have B3 := Lib.hid (own_same H3.out (fun k hk1 hk2 => k1.row k hk2 (by omega)))
  have B4 := Lib.hid (H4.out.trans (k1.toBelow (n := w.heap.size) (fun k hk' => by omega) (by omega)))
  have hm2 : m + 2 = W2.heap.size := by omega
  clear k1 hk2 hs2 h1 h2 H3 H4
  rw [HC0.out] at b1
  rw [← hm]
  have Hm := Lib.hid hm; have Hm2 := Lib.hid hm2; have HsW := Lib.hid hsW
  clear hm hm2 hsW
  have c0 := box_cell b1
  have c1 : W2.cell? ⟨m + 1, 0, none⟩ = some (.bool x) := by simp [World.cell?, b4]
  have c2 : W2.cell? ⟨m + 1, 1, none⟩ = some (.bool y) := by simp [World.cell?, b4]
  clear b4
  have hF := Lib.hid (fun w => union1_any x y w)
  cases hg : gOr x y with
  | false =>
   rw [hg] at hF HsP
   simp only [Bool.false_eq_true, if_false] at HsP
   gi_wp2_with fail
   refine (CallsIn.inRound _ (callsIn_wide.2 (hF.out _))).mono ?_
   rintro e w3 ⟨rfl, hb3⟩
   have Hb3 := Lib.hid hb3; clear hb3
   gi_wp2
   refine ⟨(Kept.refl _ W2).below Hb3.out, ?_, ?_, v, ?_, ?_⟩
   · rw [HC0.out]; exact (Hb3.out.block _ (Array.getElem?_eq_some_iff.1 b1).1).trans b1
   · exact B4.out.trans (Hb3.out.mono B4.out.size)
   · exact (Hb3.out.block _ (Array.getElem?_eq_some_iff.1 b2).1).trans b2
   · rw [HsP.out]; exact own_same B3.out (fun k hk1 hk2 => Hb3.out.block k hk2)
  | true =>
   rw [hg] at hF HsP
   simp only [if_true] at HsP
   gi_wp2_with fail
   refine (CallsIn.inRound _ (callsIn_wide.2 (hF.out _))).mono ?_
   rintro e w3 ⟨rfl, hb3⟩
   have Hb3 := Lib.hid hb3; clear hb3
   have d1 := (Hb3.out.block _ (Array.getElem?_eq_some_iff.1 b1).1).trans b1
   have d2 := (Hb3.out.block _ (Array.getElem?_eq_some_iff.1 b2).1).trans b2
   have d3 := (Hb3.out.block _ (Array.getElem?_eq_some_iff.1 b3).1).trans b3
   have D3 := Lib.hid (own_same B3.out (fun k hk1 hk2 => Hb3.out.block k hk2))
   have D4 := Lib.hid (B4.out.trans (Hb3.out.mono B4.out.size))
   have D5 := Lib.hid ((Kept.refl (fun k => (k < w.heap.size ∨ k = w.heap.size + 2 ∨ k = w.heap.size + 3) ∨ k = w.heap.size + 4 ∨ k = w.heap.size + 4 + 1) W2).below Hb3.out)
   have D6 := Lib.hid (show m + 2 ≤ w3.heap.size from by have := Hm2.out; have := Hb3.out.size; omega)
   have D7 := Lib.hid (show w.heap.size + 6 ≤ m from by have := Hm.out; have := HsW.out; omega)
   clear b1 b2 b3 B3 B4 Hb3 c0 c1 c2 hF Hm2 HsW Hm
   have q1 := box_cell d2
   have q2 := box_frozen d2
   have q3 : w3.cell? ⟨m, 0, none⟩ = some (.int .u64 p) := by simp [World.cell?, d3]
   have q4 : w3.cell? ⟨m, 1, none⟩ = some (.int .u64 q) := by simp [World.cell?, d3]
   have Hd1 := Lib.hid d1; have Hd2 := Lib.hid d2; have Hd3 := Lib.hid d3
   clear d1 d2 d3
   generalize pickP gOr pre = L at *
   have hmx : Tryz.prog.follows .mixedOrders = true := by kernel_rfl
   rcases nil_or_snoc L with rfl | ⟨L, t, rfl⟩
   · obtain ⟨ao, co, rfl, -⟩ := ivs_own D3.out (fun t ht => by cases ht)
     simp only [List.length_nil] at q1 Hd2 D3
     gi_wp2
     gi_cut [33] from 16 (fun v wx => v = .bool false ∧ Hid (Below w3.heap.size w3 wx))
     case first =>
      gi_region_with_o (fail)
      all_goals gi_wp2
      all_goals gi_meet
      all_goals exact ⟨rfl, (Below.refl _ _).drew⟩
     case rest =>
      obtain ⟨wx, rfl⟩ : ∃ wx : World, wx = wc := ⟨_, rfl⟩
      obtain ⟨rfl, Hbx⟩ := hcut
      have HX := Lib.hid (own_same D3.out (w' := wx) (fun k hk1 hk2 => Hbx.out.block k hk2))
      have HX1 := Lib.hid ((Hbx.out.block _ (Array.getElem?_eq_some_iff.1 Hd1.out).1).trans Hd1.out)
      have HXb := Lib.hid ((Hbx.out.block _ (Array.getElem?_eq_some_iff.1 Hd2.out).1).trans Hd2.out)
      have hd3 := (Hbx.out.block _ (Array.getElem?_eq_some_iff.1 Hd3.out).1).trans Hd3.out
      have HX4 := Lib.hid (D4.out.trans (Hbx.out.mono D4.out.size))
      have HX5 := Lib.hid (D5.out.below Hbx.out)
      have HX6 := Lib.hid (show w.heap.size + 8 ≤ wx.heap.size from by have := Hbx.out.size; have := D6.out; have := D7.out; omega)
      have q1 := box_cell HXb.out
      have q2 := box_frozen HXb.out
      have q3 : wx.cell? ⟨m, 0, none⟩ = some (.int .u64 p) := by simp [World.cell?, hd3]
      have q4 : wx.cell? ⟨m, 1, none⟩ = some (.int .u64 q) := by simp [World.cell?, hd3]
      clear hd3
      obtain ⟨v', w5, hr, ho, hgr⟩ := run_append_iv (w.heap.size + 6) (.slice ao 0 co) 0 [] (HX.out.alloc (.cells #[.int .u64 p, .int .u64 q] 73)) (some ⟨wx.heap.size, 0, none⟩) 1 1 [(p, q)] (rd_block (heap_at_new _ _ _ rfl) rfl rfl) (by have := Hlen.out; simp at this ⊢ <;> omega) (by have := HX6.out; simp; omega)
      obtain ⟨g', cap', rfl⟩ := ownsRow_succ ho
      have hne : some (w.heap.size + 1) ≠ (.slice ao 0 co : Value).ownBlock := fun e => by have := (HX.out.lt _ e.symm).1; omega
      have e5 : w5.heap[w.heap.size + 1]? = some (.cells #[.slice ao 0 co] 28) := (hgr.block _ (by have := HX6.out; simp; omega) hne).trans (row_old HXb.out)
      have q5 := box_cell e5
      have q6 := box_frozen e5
      have He5 := Lib.hid e5; have Ho := Lib.hid ho; have Hgr := Lib.hid hgr
      clear e5 ho hgr hne
      gi_wp2_with (gi_at_builtin; refine wpListIn_append_hr rfl _ _ 28 rfl _ _ rfl rfl _ _ hr ?_)
      refine ⟨?_, ?_, ?_, _, box_set He5.out, ?_⟩
      · exact ((HX5.out.alloc _).grown Hgr.out (fun k hk _ => by have := (HX.out.lt k hk).1; omega)).setCell (fun _ => by simp only; omega) _
      · rw [HC0.out]
        refine (Below.heap_setCell _ _ _ _ (by simp only; omega)).trans ((Hgr.out.block _ (by have := HX6.out; simp; omega) (fun e => by have := (HX.out.lt _ e.symm).1; omega)).trans (row_old HX1.out))
      · exact ((HX4.out.alloc HX4.out.size _).grown Hgr.out (by have := HX4.out.size; simp; omega) (fun k hk => by have := (HX.out.lt k hk).1; omega)).setCell (by simp only; omega) _
      · have h := own_same Ho.out (w' := w5.setCell ⟨w.heap.size + 1, 0, none⟩ (.slice (some ⟨g', 0, none⟩) (0 + 1) cap')) (fun k hk1 hk2 => Below.heap_setCell _ _ _ _ (by simp only; omega))
        rw [HsP.out, putL_nil]
        simpa using h
   · have hlk : L.length + 1 = (L ++ [t]).length := by simp
     obtain ⟨n, hn⟩ : ∃ n : Nat, n = (L ++ [t]).length := ⟨_, rfl⟩
     rw [← hn] at D3 Hlen
     obtain ⟨k, hk⟩ : ∃ k : Nat, k = L.length := ⟨_, rfl⟩
     have hnk : n = k + 1 := by omega
     obtain ⟨g, co, rfl, -⟩ := D3.out.form (by omega)
     obtain ⟨e1, e2⟩ := ivC_get (L ++ [t]) k (by simp; omega)
     have hnt : nthI (L ++ [t]) k = t := by rw [nthI_get (by simp; omega), List.getElem_append_right (by omega)]; simp [hk]
     rw [hnt] at e1 e2
     have hc1 := (D3.out.cellAt (k * 2) (by omega)).trans e1
     have hc2 := (D3.out.cellAt (k * 2 + 1) (by omega)).trans e2
     have Hc2 := Lib.hid e2
     have Ht := Lib.hid (Hm3.out t (by simp))
     have Hco := Lib.hid (show n ≤ co from by
      rcases D3.out.2 with ⟨h', _⟩ | ⟨g', cap', cur, h', _, _, hnc, _⟩
      · simp at h'
      · simp only [Value.slice.injEq, Option.some.injEq, Addr.mk.injEq, and_true, true_and] at h'
        obtain ⟨rfl, rfl⟩ := h'
        exact hnc)
     have hsub : IntKind.i64.wrap ((n : Int) - 1) = (k : Int) := by have := Hlen.out; rw [IntKind.wrap_i64]; omega
     have h01 : (k : Int) < (n : Int) := by omega
     have h02 : decide ((0 : Int) ≤ (k : Int)) = true := by rw [decide_eq_true_iff]; omega
     have hgl := cell_lt hc1
     simp only at hgl
     have Hk := Lib.hid hnk; have Hl := Lib.hid hk; have Hn2 := Lib.hid hn
     have hR := Lib.hid (fun w => relate_any t (p, q) w Ht.out ⟨by omega, hp.1⟩)
     have Hrel := Lib.hid (show (decide (relB t (p, q) = 1)) = decide (t.2 + 1 = p) from decide_eq_decide.2 (relB_one (Hm1.out.ok t (by simp)) hp.2))
     clear hlk hnk hk hn e1 e2 hnt
     obtain ⟨tx, ty⟩ := t
     gi_wp2
     gi_cut [33] from 16 (fun v wx => v = .bool (decide (ty + 1 = p)) ∧ Hid (Below w3.heap.size w3 wx))
     case first =>
      obtain ⟨r, hr⟩ : ∃ r : Nat, r = relB (tx, ty) (p, q) := ⟨_, rfl⟩
      rw [← hr] at hR Hrel
      have hrr : ((r : Int) == 1) = decide (ty + 1 = p) := by rw [← Hrel.out]; by_cases h : r = 1 <;> simp [h] <;> omega
      clear hr
      gi_region_with_o (gi_at_call 80; refine (CallsIn.inRound _ (callsIn_wide.2 (hR.out _))).mono ?_; rintro e w4 ⟨rfl, hb4⟩)
      all_goals gi_wp2
      all_goals gi_meet
      all_goals exact ⟨by first | rfl | rw [hrr], by first | exact hb4.drew | exact ((Below.refl _ _).drew).trans hb4⟩
     case rest =>
      obtain ⟨wx, rfl⟩ : ∃ wx : World, wx = wc := ⟨_, rfl⟩
      obtain ⟨rfl, Hbx⟩ := hcut
      have HX := Lib.hid (own_same D3.out (w' := wx) (fun k hk1 hk2 => Hbx.out.block k hk2))
      have HX1 := Lib.hid ((Hbx.out.block _ (Array.getElem?_eq_some_iff.1 Hd1.out).1).trans Hd1.out)
      have HXb := Lib.hid ((Hbx.out.block _ (Array.getElem?_eq_some_iff.1 Hd2.out).1).trans Hd2.out)
      have hd3 := (Hbx.out.block _ (Array.getElem?_eq_some_iff.1 Hd3.out).1).trans Hd3.out
      have HX4 := Lib.hid (D4.out.trans (Hbx.out.mono D4.out.size))
      have HX5 := Lib.hid (D5.out.below Hbx.out)
      have HX6 := Lib.hid (show w.heap.size + 8 ≤ wx.heap.size from by have := Hbx.out.size; have := D6.out; have := D7.out; omega)
      have q1 := box_cell HXb.out
      have q2 := box_frozen HXb.out
      have q3 : wx.cell? ⟨m, 0, none⟩ = some (.int .u64 p) := by simp [World.cell?, hd3]
      have q4 : wx.cell? ⟨m, 1, none⟩ = some (.int .u64 q) := by simp [World.cell?, hd3]
      clear hd3
      by_cases htb : ty + 1 = p
      · have htb' : decide (ty + 1 = p) = true := decide_eq_true htb
        have Htb := Lib.hid htb; clear htb
        have hle : k < n := by have := Hk.out; omega
        have hco : n ≤ co := Hco.out
        have z1 := (HX.out.cellAt (k * 2 + 1) (by have := Hk.out; omega)).trans Hc2.out
        have z2 := HX.out.frozenAt (k * 2 + 1)
        have hgb := (HX.out.lt g rfl).1
        gi_wp2
        refine ⟨HX5.out.setCell (fun _ => by simp only; omega) _, ?_, HX4.out.setCell (by simp only; omega) _, _, (Below.heap_setCell _ _ _ _ (by simp only; omega)).trans HXb.out, ?_⟩
        · rw [HC0.out]
          exact (Below.heap_setCell _ _ _ _ (by simp only; omega)).trans HX1.out
        · have h := (HX.out.stored (k * 2 + 1) (.int .u64 q)).1
          rw [HsP.out, putL_snoc, if_pos Htb.out, show (L ++ [(tx, q)]).length = n from by have := Hk.out; have := Hl.out; simp; omega]
          rw [Hl.out, ivC_set (L ++ [(tx, ty)]) L.length q (by simp)] at h
          have e : (L ++ [(tx, ty)]).set L.length ((nthI (L ++ [(tx, ty)]) L.length).1, q) = L ++ [(tx, q)] := by simp [nthI]
          rw [e, ← Hl.out] at h
          exact h
      · have htb' : decide (ty + 1 = p) = false := decide_eq_false htb
        have Htb := Lib.hid htb; clear htb
        obtain ⟨v', w5, hr, ho, hgr⟩ := run_append_iv (w.heap.size + 6) (.slice (some ⟨g, 0, none⟩) n co) n (L ++ [(tx, ty)]) (HX.out.alloc (.cells #[.int .u64 p, .int .u64 q] 73)) (some ⟨wx.heap.size, 0, none⟩) 1 1 [(p, q)] (rd_block (heap_at_new _ _ _ rfl) rfl rfl) (by have := Hlen.out; simp at this ⊢ <;> omega) (by have := HX6.out; simp; omega)
        obtain ⟨g', cap', rfl⟩ := ownsRow_succ ho
        have hne : some (w.heap.size + 1) ≠ (.slice (some ⟨g, 0, none⟩) n co : Value).ownBlock := fun e => by have := (HX.out.lt _ e.symm).1; omega
        have e5 : w5.heap[w.heap.size + 1]? = some (.cells #[.slice (some ⟨g, 0, none⟩) n co] 28) := (hgr.block _ (by have := HX6.out; simp; omega) hne).trans (row_old HXb.out)
        have q5 := box_cell e5
        have q6 := box_frozen e5
        have He5 := Lib.hid e5; have Ho := Lib.hid ho; have Hgr := Lib.hid hgr
        clear e5 ho hgr hne
        gi_wp2_with (gi_at_builtin; refine wpListIn_append_hr rfl _ _ 28 rfl _ _ rfl rfl _ _ hr ?_)
        refine ⟨?_, ?_, ?_, _, box_set He5.out, ?_⟩
        · exact ((HX5.out.alloc _).grown Hgr.out (fun k hk _ => by have := (HX.out.lt k hk).1; omega)).setCell (fun _ => by simp only; omega) _
        · rw [HC0.out]
          refine (Below.heap_setCell _ _ _ _ (by simp only; omega)).trans ((Hgr.out.block _ (by have := HX6.out; simp; omega) (fun e => by have := (HX.out.lt _ e.symm).1; omega)).trans (row_old HX1.out))
        · exact ((HX4.out.alloc HX4.out.size _).grown Hgr.out (by have := HX4.out.size; simp; omega) (fun k hk => by have := (HX.out.lt k hk).1; omega)).setCell (by simp only; omega) _
        · have h := own_same Ho.out (w' := w5.setCell ⟨w.heap.size + 1, 0, none⟩ (.slice (some ⟨g', 0, none⟩) (n + 1) cap')) (fun k hk1 hk2 => Below.heap_setCell _ _ _ _ (by simp only; omega))
          rw [HsP.out, putL_snoc, if_neg Htb.out, show (L ++ [(tx, ty)] ++ [(p, q)]).length = n + 1 from by have := Hk.out; have := Hl.out; simp; omega]
          exact h
 case done =>
  rintro ps W hS ⟨h1, h4, v, h2, h3⟩ hK
  have hall := Lib.hid (pickP_all (g := gOr) Hla.out Hlb.out rfl hS)
  rw [hall.out] at h3
  have q1 := box_cell h2
  have H3 := Lib.hid h3; have H4 := Lib.hid h4
  have Hhw := Lib.hid (Array.getElem?_eq_some_iff.1 hK).1
  clear h1 h2 h3 h4 hS e0 e1 e2 e3
  gi_wp2
  go_wp2
  refine ⟨by simp, .inl ⟨_, _, rfl, run_takeDeferred hK, ?_⟩⟩
  refine ⟨_, results_tmp rfl _ _ _, ⟨v, rfl, ?_⟩, ?_⟩
  · refine own_mono (own_same H3.out (fun k hk1 hk2 => World.putObj_heap_other (by omega))) (by omega)
  · exact (Kept.refl (fun k => k < w.heap.size) W).putObj (fun _ h => by have h' : wl.heap.size < w.heap.size := h; omega) _ |>.toBelow (fun _ h => h) H4.out.size |> H4.out.trans
 case stop =>
  rintro c pre W hV h
  exact h.elim
end
section
open Go.RowKit Go.Shelf
attribute [local go_sem] Oper.semAt_some wide_fn
set_option maxHeartbeats 1000000 in
theorem minus1_any (x y : Bool) (w : World) : Calls Tryz.prog 241 #[.agg #[.bool x, .bool y]] w fun e w' => e = .returned (.bool (gSub x y)) ∧ Below w.heap.size w w' := by
 cases x <;> cases y <;>
 (go_enter Tryz.func241, Tryz.ntmps241
  go_wp2
  all_goals go_ret
  all_goals exact ⟨rfl, by first | exact (Below.refl _ _).alloc (Nat.le_refl _) _ | exact below_drewN' ((Below.refl _ _).alloc (Nat.le_refl _) _) _⟩)
set_option maxRecDepth 20000 in
set_option maxHeartbeats 4000000 in
theorem merge_gSub (aa ab : Option Addr) (na ca nb cb : Nat) (a b : List Iv) (w : World) (hIa : Ivs w aa na ca a) (hIb : Ivs w ab nb cb b) (ga : Good a) (gb : Good b) (hn : 2 * a.length + 2 * b.length + 1 ≤ 900000) :
 Calls Tryz.prog 119 #[.slice aa na ca, .slice ab nb cb, .func (.func 241) #[] #[]] w fun e w' =>
  (∃ v, e = .returned v ∧ w'.ownsRow w.heap.size 73 2 v (opL gSub a b).length (ivC (opL gSub a b))) ∧ Below w.heap.size w w' := by
 have Hla := Lib.hid (show Lt64 a from hIa.lt); have Hlb := Lib.hid (show Lt64 b from hIb.lt)
 have HIa := Lib.hid hIa; have HIb := Lib.hid hIb; have Hga := Lib.hid ga; have Hgb := Lib.hid gb
 have Hn := Lib.hid hn
 clear hIa hIb ga gb hn
 refine (callsIn_wide (n := 3)).1 ?_
 refine callsIn_of_wp_marks Tryz.func119 rfl trivial ?_ rfl
 simp only [Tryz.ntmps119, List.size_toArray, List.length_cons, List.length_nil, Nat.reduceAdd, Nat.reduceSub, Array.replicate_succ, Array.replicate_zero, List.push_toArray, List.append_toArray, List.nil_append, List.cons_append]
 refine wpIn_wide.2 ?_
 go_wp2_with (go_at_call 168; refine (pieces_any _ _ _ _ _ _ _).mono ?_; rintro e w1 ⟨rfl, rfl⟩)
 refine (wpIn_wide (n := 3)).1 ?_
 obtain ⟨C0, hC0⟩ : ∃ C0 : Obj, C0 = .cells #[.func (.func 241) #[] #[]] 167 := ⟨_, rfl⟩
 obtain ⟨C1, hC1⟩ : ∃ C1 : Obj, C1 = .cells #[.slice none 0 0] 28 := ⟨_, rfl⟩
 obtain ⟨C2, hC2⟩ : ∃ C2 : Obj, C2 = .cells #[.slice aa na ca] 28 := ⟨_, rfl⟩
 obtain ⟨C3, hC3⟩ : ∃ C3 : Obj, C3 = .cells #[.slice ab nb cb] 28 := ⟨_, rfl⟩
 rw [← hC0, ← hC1, ← hC2, ← hC3]
 obtain ⟨wl, hwl⟩ : ∃ wl : World, wl = (((w.alloc C0).alloc C1).alloc C2).alloc C3 := ⟨_, rfl⟩
 rw [← hwl]
 have hsz : wl.heap.size = w.heap.size + 4 := by rw [hwl]; simp
 have hbw : Below w.heap.size w wl := by
  rw [hwl]
  exact ((((Below.refl _ w).alloc (Nat.le_refl _) C0).alloc (by simp) C1).alloc (by simp; omega) C2).alloc (by simp; omega) C3
 have e0 : wl.heap[w.heap.size]? = some C0 := by rw [hwl]; exact row_old (row_old (row_old (row_new rfl)))
 have e1 : wl.heap[w.heap.size + 1]? = some C1 := by rw [hwl]; exact row_old (row_old (row_new (by simp)))
 have e2 : wl.heap[w.heap.size + 2]? = some C2 := by rw [hwl]; exact row_old (row_new (by simp))
 have e3 : wl.heap[w.heap.size + 3]? = some C3 := by rw [hwl]; exact row_new (by simp)
 clear hwl
 refine wp_range (n := 3) (gf := 199) (lb := #[.pointer (some ⟨w.heap.size + 2, 0, none⟩), .pointer (some ⟨w.heap.size + 3, 0, none⟩)]) rfl (enters_of Tryz.func199 (by kernel_rfl) rfl)
  (pieces_seq (3 - 1) w wl (w.heap.size + 2) (w.heap.size + 3) a b Hga.out Hgb.out hbw ⟨aa, na, ca, by rw [e2, hC2], HIa.out⟩ ⟨ab, nb, cb, by rw [e3, hC3], HIb.out⟩ (by omega) (by omega) (by omega))
  (fun x => rfl) (fun k hk => by omega) (fun k hk => by omega)
  (fun pre W => W.heap[w.heap.size]? = some C0 ∧ Below w.heap.size w W ∧ ∃ v, W.heap[w.heap.size + 1]? = some (.cells #[v] 28) ∧ W.ownsRow (w.heap.size + 6) 73 2 v (pickP gSub pre).length (ivC (pickP gSub pre)))
  (fun _ _ _ => False) ?hI (fun _ _ _ _ h _ => h) ⟨e0, hbw, .slice none 0 0, by rw [e1, hC1], World.ownsRow_nil ..⟩ ?round ?done ?stop
 case hI =>
  rintro s A B ⟨h1, h4, v, h2, h3⟩ hk
  have hs := h4.size
  exact ⟨(hk.row _ (Array.getElem?_eq_some_iff.1 h1).1 (by omega)).trans h1, h4.trans (hk.toBelow (fun k hk' => by omega) (by omega)), v, (hk.row _ (Array.getElem?_eq_some_iff.1 h2).1 (by omega)).trans h2, own_same h3 (fun k hk1 hk2 => hk.row k hk2 (by omega))⟩
 case round =>
  rintro pre ⟨⟨p, q⟩, x, y⟩ W ⟨Y, hV⟩ ⟨h1, h4, v, h2, h3⟩ hsW
  rw [hsz] at hsW ⊢
  clear hsz
  have HC0 := Lib.hid hC0
  clear hbw e0 e1 e2 e3 hC0 hC1 hC2 hC3
  have hp : q < 18446744073709551616 ∧ p ≤ q := by obtain ⟨_, k1, k2, _⟩ := chn_init hV; exact ⟨k2, k1⟩
  obtain ⟨hm1, hm2, hm3, hm4⟩ := pickP_mid (g := gSub) (chn_init hV).1
  have hml := Nat.le_trans (pickP_len gSub pre) (chn_len (chn_init hV).1)
  have Hlen := Lib.hid (Nat.le_trans hml Hn.out)
  have HsP := Lib.hid (pickP_snoc gSub pre ((p, q), x, y))
  have Hm3 := Lib.hid hm3
  have Hm1 := Lib.hid hm1
  clear hm1 hm2 hm3 hm4 hml hV
  have H3 := Lib.hid h3; have H4 := Lib.hid h4
  have h4s := h4.size
  clear h3 h4
  obtain ⟨m, hm⟩ : ∃ m : Nat, m = W.heap.size := ⟨_, rfl⟩
  simp only [pcE, ivV]
  gi_wp2
  refine ⟨((Kept.refl _ W).alloc _).alloc _, fun W2 hk2 hs2 => ?_⟩
  try rw [World.size_alloc, World.size_alloc] at hs2
  have k1 : Kept (fun k => k ≠ w.heap.size + 4 + 1) W W2 := (((Kept.refl _ W).alloc _).alloc _).trans hk2
  have b1 : W2.heap[w.heap.size]? = some C0 := (k1.row _ (Array.getElem?_eq_some_iff.1 h1).1 (by omega)).trans h1
  have b2 : W2.heap[w.heap.size + 1]? = some (.cells #[v] 28) := (k1.row _ (Array.getElem?_eq_some_iff.1 h2).1 (by omega)).trans h2
  have b3 : W2.heap[m]? = some (.cells #[.int .u64 p, .int .u64 q] 73) := by rw [hm]; exact (hk2.row _ (by simp <;> omega) (by omega)).trans (row_old (row_new rfl))
  have b4 : W2.heap[m + 1]? = some (.cells #[.bool x, .bool y] 166) := by rw [hm]; exact (hk2.row _ (by simp <;> omega) (by omega)).trans (row_new (by simp))
  have B3 := Lib.hid (own_same H3.out (fun k hk1 hk2 => k1.row k hk2 (by omega)))
  have B4 := Lib.hid (H4.out.trans (k1.toBelow (n := w.heap.size) (fun k hk' => by omega) (by omega)))
  have hm2 : m + 2 = W2.heap.size := by omega
  clear k1 hk2 hs2 h1 h2 H3 H4
  rw [HC0.out] at b1
  rw [← hm]
  have Hm := Lib.hid hm; have Hm2 := Lib.hid hm2; have HsW := Lib.hid hsW
  clear hm hm2 hsW
  have c0 := box_cell b1
  have c1 : W2.cell? ⟨m + 1, 0, none⟩ = some (.bool x) := by simp [World.cell?, b4]
  have c2 : W2.cell? ⟨m + 1, 1, none⟩ = some (.bool y) := by simp [World.cell?, b4]
  clear b4
  have hF := Lib.hid (fun w => minus1_any x y w)
  cases hg : gSub x y with
  | false =>
   rw [hg] at hF HsP
   simp only [Bool.false_eq_true, if_false] at HsP
   gi_wp2_with fail
   refine (CallsIn.inRound _ (callsIn_wide.2 (hF.out _))).mono ?_
   rintro e w3 ⟨rfl, hb3⟩
   have Hb3 := Lib.hid hb3; clear hb3
   gi_wp2
   refine ⟨(Kept.refl _ W2).below Hb3.out, ?_, ?_, v, ?_, ?_⟩
   · rw [HC0.out]; exact (Hb3.out.block _ (Array.getElem?_eq_some_iff.1 b1).1).trans b1
   · exact B4.out.trans (Hb3.out.mono B4.out.size)
   · exact (Hb3.out.block _ (Array.getElem?_eq_some_iff.1 b2).1).trans b2
   · rw [HsP.out]; exact own_same B3.out (fun k hk1 hk2 => Hb3.out.block k hk2)
  | true =>
   rw [hg] at hF HsP
   simp only [if_true] at HsP
   gi_wp2_with fail
   refine (CallsIn.inRound _ (callsIn_wide.2 (hF.out _))).mono ?_
   rintro e w3 ⟨rfl, hb3⟩
   have Hb3 := Lib.hid hb3; clear hb3
   have d1 := (Hb3.out.block _ (Array.getElem?_eq_some_iff.1 b1).1).trans b1
   have d2 := (Hb3.out.block _ (Array.getElem?_eq_some_iff.1 b2).1).trans b2
   have d3 := (Hb3.out.block _ (Array.getElem?_eq_some_iff.1 b3).1).trans b3
   have D3 := Lib.hid (own_same B3.out (fun k hk1 hk2 => Hb3.out.block k hk2))
   have D4 := Lib.hid (B4.out.trans (Hb3.out.mono B4.out.size))
   have D5 := Lib.hid ((Kept.refl (fun k => (k < w.heap.size ∨ k = w.heap.size + 2 ∨ k = w.heap.size + 3) ∨ k = w.heap.size + 4 ∨ k = w.heap.size + 4 + 1) W2).below Hb3.out)
   have D6 := Lib.hid (show m + 2 ≤ w3.heap.size from by have := Hm2.out; have := Hb3.out.size; omega)
   have D7 := Lib.hid (show w.heap.size + 6 ≤ m from by have := Hm.out; have := HsW.out; omega)
   clear b1 b2 b3 B3 B4 Hb3 c0 c1 c2 hF Hm2 HsW Hm
   have q1 := box_cell d2
   have q2 := box_frozen d2
   have q3 : w3.cell? ⟨m, 0, none⟩ = some (.int .u64 p) := by simp [World.cell?, d3]
   have q4 : w3.cell? ⟨m, 1, none⟩ = some (.int .u64 q) := by simp [World.cell?, d3]
   have Hd1 := Lib.hid d1; have Hd2 := Lib.hid d2; have Hd3 := Lib.hid d3
   clear d1 d2 d3
   generalize pickP gSub pre = L at *
   have hmx : Tryz.prog.follows .mixedOrders = true := by kernel_rfl
   rcases nil_or_snoc L with rfl | ⟨L, t, rfl⟩
   · obtain ⟨ao, co, rfl, -⟩ := ivs_own D3.out (fun t ht => by cases ht)
     simp only [List.length_nil] at q1 Hd2 D3
     gi_wp2
     gi_cut [33] from 16 (fun v wx => v = .bool false ∧ Hid (Below w3.heap.size w3 wx))
     case first =>
      gi_region_with_o (fail)
      all_goals gi_wp2
      all_goals gi_meet
      all_goals exact ⟨rfl, (Below.refl _ _).drew⟩
     case rest =>
      obtain ⟨wx, rfl⟩ : ∃ wx : World, wx = wc := ⟨_, rfl⟩
      obtain ⟨rfl, Hbx⟩ := hcut
      have HX := Lib.hid (own_same D3.out (w' := wx) (fun k hk1 hk2 => Hbx.out.block k hk2))
      have HX1 := Lib.hid ((Hbx.out.block _ (Array.getElem?_eq_some_iff.1 Hd1.out).1).trans Hd1.out)
      have HXb := Lib.hid ((Hbx.out.block _ (Array.getElem?_eq_some_iff.1 Hd2.out).1).trans Hd2.out)
      have hd3 := (Hbx.out.block _ (Array.getElem?_eq_some_iff.1 Hd3.out).1).trans Hd3.out
      have HX4 := Lib.hid (D4.out.trans (Hbx.out.mono D4.out.size))
      have HX5 := Lib.hid (D5.out.below Hbx.out)
      have HX6 := Lib.hid (show w.heap.size + 8 ≤ wx.heap.size from by have := Hbx.out.size; have := D6.out; have := D7.out; omega)
      have q1 := box_cell HXb.out
      have q2 := box_frozen HXb.out
      have q3 : wx.cell? ⟨m, 0, none⟩ = some (.int .u64 p) := by simp [World.cell?, hd3]
      have q4 : wx.cell? ⟨m, 1, none⟩ = some (.int .u64 q) := by simp [World.cell?, hd3]
      clear hd3
      obtain ⟨v', w5, hr, ho, hgr⟩ := run_append_iv (w.heap.size + 6) (.slice ao 0 co) 0 [] (HX.out.alloc (.cells #[.int .u64 p, .int .u64 q] 73)) (some ⟨wx.heap.size, 0, none⟩) 1 1 [(p, q)] (rd_block (heap_at_new _ _ _ rfl) rfl rfl) (by have := Hlen.out; simp at this ⊢ <;> omega) (by have := HX6.out; simp; omega)
      obtain ⟨g', cap', rfl⟩ := ownsRow_succ ho
      have hne : some (w.heap.size + 1) ≠ (.slice ao 0 co : Value).ownBlock := fun e => by have := (HX.out.lt _ e.symm).1; omega
      have e5 : w5.heap[w.heap.size + 1]? = some (.cells #[.slice ao 0 co] 28) := (hgr.block _ (by have := HX6.out; simp; omega) hne).trans (row_old HXb.out)
      have q5 := box_cell e5
      have q6 := box_frozen e5
      have He5 := Lib.hid e5; have Ho := Lib.hid ho; have Hgr := Lib.hid hgr
      clear e5 ho hgr hne
      gi_wp2_with (gi_at_builtin; refine wpListIn_append_hr rfl _ _ 28 rfl _ _ rfl rfl _ _ hr ?_)
      refine ⟨?_, ?_, ?_, _, box_set He5.out, ?_⟩
      · exact ((HX5.out.alloc _).grown Hgr.out (fun k hk _ => by have := (HX.out.lt k hk).1; omega)).setCell (fun _ => by simp only; omega) _
      · rw [HC0.out]
        refine (Below.heap_setCell _ _ _ _ (by simp only; omega)).trans ((Hgr.out.block _ (by have := HX6.out; simp; omega) (fun e => by have := (HX.out.lt _ e.symm).1; omega)).trans (row_old HX1.out))
      · exact ((HX4.out.alloc HX4.out.size _).grown Hgr.out (by have := HX4.out.size; simp; omega) (fun k hk => by have := (HX.out.lt k hk).1; omega)).setCell (by simp only; omega) _
      · have h := own_same Ho.out (w' := w5.setCell ⟨w.heap.size + 1, 0, none⟩ (.slice (some ⟨g', 0, none⟩) (0 + 1) cap')) (fun k hk1 hk2 => Below.heap_setCell _ _ _ _ (by simp only; omega))
        rw [HsP.out, putL_nil]
        simpa using h
   · have hlk : L.length + 1 = (L ++ [t]).length := by simp
     obtain ⟨n, hn⟩ : ∃ n : Nat, n = (L ++ [t]).length := ⟨_, rfl⟩
     rw [← hn] at D3 Hlen
     obtain ⟨k, hk⟩ : ∃ k : Nat, k = L.length := ⟨_, rfl⟩
     have hnk : n = k + 1 := by omega
     obtain ⟨g, co, rfl, -⟩ := D3.out.form (by omega)
     obtain ⟨e1, e2⟩ := ivC_get (L ++ [t]) k (by simp; omega)
     have hnt : nthI (L ++ [t]) k = t := by rw [nthI_get (by simp; omega), List.getElem_append_right (by omega)]; simp [hk]
     rw [hnt] at e1 e2
     have hc1 := (D3.out.cellAt (k * 2) (by omega)).trans e1
     have hc2 := (D3.out.cellAt (k * 2 + 1) (by omega)).trans e2
     have Hc2 := Lib.hid e2
     have Ht := Lib.hid (Hm3.out t (by simp))
     have Hco := Lib.hid (show n ≤ co from by
      rcases D3.out.2 with ⟨h', _⟩ | ⟨g', cap', cur, h', _, _, hnc, _⟩
      · simp at h'
      · simp only [Value.slice.injEq, Option.some.injEq, Addr.mk.injEq, and_true, true_and] at h'
        obtain ⟨rfl, rfl⟩ := h'
        exact hnc)
     have hsub : IntKind.i64.wrap ((n : Int) - 1) = (k : Int) := by have := Hlen.out; rw [IntKind.wrap_i64]; omega
     have h01 : (k : Int) < (n : Int) := by omega
     have h02 : decide ((0 : Int) ≤ (k : Int)) = true := by rw [decide_eq_true_iff]; omega
     have hgl := cell_lt hc1
     simp only at hgl
     have Hk := Lib.hid hnk; have Hl := Lib.hid hk; have Hn2 := Lib.hid hn
     have hR := Lib.hid (fun w => relate_any t (p, q) w Ht.out ⟨by omega, hp.1⟩)
     have Hrel := Lib.hid (show (decide (relB t (p, q) = 1)) = decide (t.2 + 1 = p) from decide_eq_decide.2 (relB_one (Hm1.out.ok t (by simp)) hp.2))
     clear hlk hnk hk hn e1 e2 hnt
     obtain ⟨tx, ty⟩ := t
     gi_wp2
     gi_cut [33] from 16 (fun v wx => v = .bool (decide (ty + 1 = p)) ∧ Hid (Below w3.heap.size w3 wx))
     case first =>
      obtain ⟨r, hr⟩ : ∃ r : Nat, r = relB (tx, ty) (p, q) := ⟨_, rfl⟩
      rw [← hr] at hR Hrel
      have hrr : ((r : Int) == 1) = decide (ty + 1 = p) := by rw [← Hrel.out]; by_cases h : r = 1 <;> simp [h] <;> omega
      clear hr
      gi_region_with_o (gi_at_call 80; refine (CallsIn.inRound _ (callsIn_wide.2 (hR.out _))).mono ?_; rintro e w4 ⟨rfl, hb4⟩)
      all_goals gi_wp2
      all_goals gi_meet
      all_goals exact ⟨by first | rfl | rw [hrr], by first | exact hb4.drew | exact ((Below.refl _ _).drew).trans hb4⟩
     case rest =>
      obtain ⟨wx, rfl⟩ : ∃ wx : World, wx = wc := ⟨_, rfl⟩
      obtain ⟨rfl, Hbx⟩ := hcut
      have HX := Lib.hid (own_same D3.out (w' := wx) (fun k hk1 hk2 => Hbx.out.block k hk2))
      have HX1 := Lib.hid ((Hbx.out.block _ (Array.getElem?_eq_some_iff.1 Hd1.out).1).trans Hd1.out)
      have HXb := Lib.hid ((Hbx.out.block _ (Array.getElem?_eq_some_iff.1 Hd2.out).1).trans Hd2.out)
      have hd3 := (Hbx.out.block _ (Array.getElem?_eq_some_iff.1 Hd3.out).1).trans Hd3.out
      have HX4 := Lib.hid (D4.out.trans (Hbx.out.mono D4.out.size))
      have HX5 := Lib.hid (D5.out.below Hbx.out)
      have HX6 := Lib.hid (show w.heap.size + 8 ≤ wx.heap.size from by have := Hbx.out.size; have := D6.out; have := D7.out; omega)
      have q1 := box_cell HXb.out
      have q2 := box_frozen HXb.out
      have q3 : wx.cell? ⟨m, 0, none⟩ = some (.int .u64 p) := by simp [World.cell?, hd3]
      have q4 : wx.cell? ⟨m, 1, none⟩ = some (.int .u64 q) := by simp [World.cell?, hd3]
      clear hd3
      by_cases htb : ty + 1 = p
      · have htb' : decide (ty + 1 = p) = true := decide_eq_true htb
        have Htb := Lib.hid htb; clear htb
        have hle : k < n := by have := Hk.out; omega
        have hco : n ≤ co := Hco.out
        have z1 := (HX.out.cellAt (k * 2 + 1) (by have := Hk.out; omega)).trans Hc2.out
        have z2 := HX.out.frozenAt (k * 2 + 1)
        have hgb := (HX.out.lt g rfl).1
        gi_wp2
        refine ⟨HX5.out.setCell (fun _ => by simp only; omega) _, ?_, HX4.out.setCell (by simp only; omega) _, _, (Below.heap_setCell _ _ _ _ (by simp only; omega)).trans HXb.out, ?_⟩
        · rw [HC0.out]
          exact (Below.heap_setCell _ _ _ _ (by simp only; omega)).trans HX1.out
        · have h := (HX.out.stored (k * 2 + 1) (.int .u64 q)).1
          rw [HsP.out, putL_snoc, if_pos Htb.out, show (L ++ [(tx, q)]).length = n from by have := Hk.out; have := Hl.out; simp; omega]
          rw [Hl.out, ivC_set (L ++ [(tx, ty)]) L.length q (by simp)] at h
          have e : (L ++ [(tx, ty)]).set L.length ((nthI (L ++ [(tx, ty)]) L.length).1, q) = L ++ [(tx, q)] := by simp [nthI]
          rw [e, ← Hl.out] at h
          exact h
      · have htb' : decide (ty + 1 = p) = false := decide_eq_false htb
        have Htb := Lib.hid htb; clear htb
        obtain ⟨v', w5, hr, ho, hgr⟩ := run_append_iv (w.heap.size + 6) (.slice (some ⟨g, 0, none⟩) n co) n (L ++ [(tx, ty)]) (HX.out.alloc (.cells #[.int .u64 p, .int .u64 q] 73)) (some ⟨wx.heap.size, 0, none⟩) 1 1 [(p, q)] (rd_block (heap_at_new _ _ _ rfl) rfl rfl) (by have := Hlen.out; simp at this ⊢ <;> omega) (by have := HX6.out; simp; omega)
        obtain ⟨g', cap', rfl⟩ := ownsRow_succ ho
        have hne : some (w.heap.size + 1) ≠ (.slice (some ⟨g, 0, none⟩) n co : Value).ownBlock := fun e => by have := (HX.out.lt _ e.symm).1; omega
        have e5 : w5.heap[w.heap.size + 1]? = some (.cells #[.slice (some ⟨g, 0, none⟩) n co] 28) := (hgr.block _ (by have := HX6.out; simp; omega) hne).trans (row_old HXb.out)
        have q5 := box_cell e5
        have q6 := box_frozen e5
        have He5 := Lib.hid e5; have Ho := Lib.hid ho; have Hgr := Lib.hid hgr
        clear e5 ho hgr hne
        gi_wp2_with (gi_at_builtin; refine wpListIn_append_hr rfl _ _ 28 rfl _ _ rfl rfl _ _ hr ?_)
        refine ⟨?_, ?_, ?_, _, box_set He5.out, ?_⟩
        · exact ((HX5.out.alloc _).grown Hgr.out (fun k hk _ => by have := (HX.out.lt k hk).1; omega)).setCell (fun _ => by simp only; omega) _
        · rw [HC0.out]
          refine (Below.heap_setCell _ _ _ _ (by simp only; omega)).trans ((Hgr.out.block _ (by have := HX6.out; simp; omega) (fun e => by have := (HX.out.lt _ e.symm).1; omega)).trans (row_old HX1.out))
        · exact ((HX4.out.alloc HX4.out.size _).grown Hgr.out (by have := HX4.out.size; simp; omega) (fun k hk => by have := (HX.out.lt k hk).1; omega)).setCell (by simp only; omega) _
        · have h := own_same Ho.out (w' := w5.setCell ⟨w.heap.size + 1, 0, none⟩ (.slice (some ⟨g', 0, none⟩) (n + 1) cap')) (fun k hk1 hk2 => Below.heap_setCell _ _ _ _ (by simp only; omega))
          rw [HsP.out, putL_snoc, if_neg Htb.out, show (L ++ [(tx, ty)] ++ [(p, q)]).length = n + 1 from by have := Hk.out; have := Hl.out; simp; omega]
          exact h
 case done =>
  rintro ps W hS ⟨h1, h4, v, h2, h3⟩ hK
  have hall := Lib.hid (pickP_all (g := gSub) Hla.out Hlb.out rfl hS)
  rw [hall.out] at h3
  have q1 := box_cell h2
  have H3 := Lib.hid h3; have H4 := Lib.hid h4
  have Hhw := Lib.hid (Array.getElem?_eq_some_iff.1 hK).1
  clear h1 h2 h3 h4 hS e0 e1 e2 e3
  gi_wp2
  go_wp2
  refine ⟨by simp, .inl ⟨_, _, rfl, run_takeDeferred hK, ?_⟩⟩
  refine ⟨_, results_tmp rfl _ _ _, ⟨v, rfl, ?_⟩, ?_⟩
  · refine own_mono (own_same H3.out (fun k hk1 hk2 => World.putObj_heap_other (by omega))) (by omega)
  · exact (Kept.refl (fun k => k < w.heap.size) W).putObj (fun _ h => by have h' : wl.heap.size < w.heap.size := h; omega) _ |>.toBelow (fun _ h => h) H4.out.size |> H4.out.trans
 case stop =>
  rintro c pre W hV h
  exact h.elim
end
end Go.Proofs.YtkkdlgcfcbaibaaGreatDoor
