/- Walks and laws, joined: La30. -/
import Derived.Test.YtkkdlgcfcbaibaaGreatDoorLa29
import Derived.Test.YtkkdlgcfcbaibaaGreatDoorLa23
import Derived.Test.YtkkdlgcfcbaibaaGreatDoorLa18
import Derived.Test.YtkkdlgcfcbaibaaGreatDoorLa22
import Derived.Test.YtkkdlgcfcbaibaaGreatDoorLa12
import Derived.Test.YtkkdlgcfcbaibaaGreatDoorLa13
import Derived.Test.YtkkdlgcfcbaibaaGreatDoorLa26
set_option linter.unusedVariables false
namespace Go.Proofs.YtkkdlgcfcbaibaaGreatDoor
section
open Go.RowKit
theorem packTo_len (v : Vec) (hh : ∀ e ∈ v, e.2.2.length ≤ 500) : ∀ d, d ≤ v.length → (packTo v d).length ≤ 1 + 1003 * d
 | 0, _ => by simp [packTo]
 | d + 1, h => by
   have h1 := packTo_len v hh d (by omega)
   have h2 := hh _ (nthE_mem (show d < v.length from h))
   rw [packTo, List.length_append]
   unfold entN diffsN
   rw [List.length_append, diffsTo_len]
   simp only [List.length_cons, List.length_nil]
   omega
theorem repD_lt {v : Vec} (h : LtV v) {d : Nat} (hd : d < v.length) : repD v d < 18446744073709551616 := by
 have h1 := (h _ (nthE_mem hd)).rep
 unfold repD
 split
 · rename_i e; rw [← e]; exact h1
 · omega
theorem entN_lt {v : Vec} (h : LtV v) (hh : ∀ e ∈ v, e.2.2.length ≤ 500) {d : Nat} (hd : d < v.length) : ∀ y ∈ entN v d, y < 18446744073709551616 := by
 intro y hy
 have hm := nthE_mem hd
 unfold entN at hy
 rcases List.mem_append.1 hy with hy | hy
 · simp at hy
   rcases hy with rfl | rfl | rfl
   · exact repD_lt h hd
   · exact (h _ hm).max
   · have := hh _ hm; omega
 · exact diffsTo_lt (h _ hm).holes _ (Nat.le_refl _) y hy
set_option maxRecDepth 100000 in
set_option maxHeartbeats 8000000 in
theorem packApp_any (w0 : World) (v0 : Value) (nums : List Nat) (a : Option Addr) (n c : Nat) (v : Vec) (w : World) (hE : Ents w0 a n c v) (hw : Below w0.heap.size w0 w) (hA : v.Pairwise RepLt) (hG : ∀ e ∈ v, Good e.2.2) (hn : n ≤ 300) (hh : ∀ e ∈ v, e.2.2.length ≤ 500) (ho : OwnB w w0.heap.size v0 nums) (hl : nums.length ≤ 600000000000) :
 Calls Tryz.prog 96 #[v0, .slice a n c] w fun e w' => ∃ v', e = .returned v' ∧ OwnB w' w0.heap.size v' (nums ++ packN v) ∧ Grw w w' v0 v' := by
 have HE := Lib.hid hE
 have Hl := Lib.hid hE.len
 have HA := Lib.hid hA; have HG := Lib.hid hG; have Hh := Lib.hid hh
 have Hlv := Lib.hid hE.lt
 have Hv0 := Lib.hid (show ∀ k, v0.ownBlock = some k → w0.heap.size ≤ k from fun k hk => (ho.lt k hk).1)
 have Hw := Lib.hid hw
 have Hpl := Lib.hid (packTo_len v hh)
 have hcv : IntKind.u64.wrap (n : Int) = (n : Int) := by rw [IntKind.wrap_u64]; omega
 have hC0 := Lib.hid (putG_any w0.heap.size v0 nums n w (by omega) ho hw.size (by omega))
 have Hall := Lib.hid (show packN v = packTo v n from by rw [← hE.len]; rfl)
 have Hn0 := Lib.hid (show [n] = packTo v 0 from by rw [← hE.len]; rfl)
 clear hE hA hG hh ho hw
 go_enter Tryz.func96, Tryz.ntmps96
 go_wp2_with fail
 refine hC0.out.mono ?_
 rintro e w1 ⟨v1, rfl, ho1, hg1⟩
 rw [Hn0.out] at ho1
 have Ho1 := Lib.hid ho1
 have Hg1 := Lib.hid hg1
 clear ho1 hg1 hC0
 go_wp2
 go_loopw [0, 5, 6, 7, 8, 9, 11, 19, 57] (fun b _ _ _ _ _ _ i _ wr => ∃ d : Nat, d ≤ n ∧ i = .int .i64 d ∧ Hid (Grw w wr v0 b) ∧ Hid (OwnB wr w0.heap.size b (nums ++ packTo v d))) (fun _ _ _ _ _ _ _ i _ _ => n - (intOf i).toNat)
 case atStart => exact ⟨0, by omega, rfl, Hg1, Ho1⟩
 case round =>
  obtain ⟨d, hd, rfl, hgr, hor⟩ := hrel
  have hb : Below w0.heap.size w0 wr := Hw.out.trans (hgr.out.toBelow Hw.out.size Hv0.out)
  have Hb := Lib.hid hb; clear hb
  by_cases hdn : d < n
  · have hdv : d < v.length := by rw [Hl.out]; exact hdn
    obtain ⟨bb, oo, rfl⟩ := HE.out.some (by omega)
    obtain ⟨x, m, c', hq⟩ := HE.out.fix hdn
    obtain ⟨q1, q2, q3, hI0⟩ := hq _ Hb.out
    have Hqp := Lib.hid (fun (h1 : d - 1 < n) w' (h : Below w0.heap.size w0 w') => (HE.out.at h1 w' h).1)
    have hem := nthE_mem hdv
    have Hdo := Lib.hid (good_diff (HG.out _ hem))
    have hm500 := Hh.out _ hem
    have hm : m ≤ 100000 := by have := hI0.len; omega
    have Hdl := Lib.hid (show ∀ y ∈ diffsN (nthE v d).2.2 1, y < 18446744073709551616 from diffsTo_lt (Hlv.out _ hem).holes _ (Nat.le_refl _))
    have Hdlen := Lib.hid (show (diffsN (nthE v d).2.2 1).length = 2 * m from by unfold diffsN; rw [diffsTo_len, hI0.len])
    have Hen := Lib.hid (show entN v d = [repD v d, (nthE v d).2.1, m] ++ diffsN (nthE v d).2.2 1 from by unfold entN; rw [hI0.len])
    have Hel := Lib.hid (entN_lt Hlv.out Hh.out hdv)
    have Hpk := Lib.hid (show packTo v (d + 1) = packTo v d ++ entN v d from rfl)
    have Hp0 := Lib.hid (show nums.length + (packTo v d).length + (3 + 2 * m) ≤ 1000000000000 from by have := Hpl.out d (by omega); have := hI0.len; omega)
    have Hrp := Lib.hid (show repD v d = if d = 0 then (nthE v 0).1 else (nthE v d).1 - (nthE v (d - 1)).1 - 1 from rfl)
    have he0 : d = 0 → nthE v 0 = nthE v d := fun h => by rw [h]
    have hlt := fun (h0 : 0 < d) => show (nthE v (d - 1)).1 < (nthE v d).1 from by
     have := List.pairwise_iff_getElem.1 HA.out (d - 1) d (by omega) hdv (by omega)
     unfold RepLt at this
     rwa [← nthE_get (by omega), ← nthE_get hdv] at this
    have hrl := (Hlv.out _ hem).rep
    have h0 : (0 : Int) ≤ d := by omega
    have h04 : (d : Int) < (n : Int) := by omega
    have hcm : IntKind.u64.wrap (m : Int) = (m : Int) := by rw [IntKind.wrap_u64]; omega
    have Hqf := Lib.hid (fun w' (h : Below w0.heap.size w0 w') => (hq w' h).2.2.2)
    clear hq hI0 hem
    generalize repD v d = rp at *
    generalize nthE v 0 = e0 at *
    generalize nthE v d = en at *
    obtain ⟨er, mx, eh⟩ := en
    generalize (nthE v (d - 1)).1 = pr at *
    simp only at q1 q2 q3 Hqf Hdo Hdl Hdlen Hen Hrp hlt hrl hm500
    have hal : Below wr.heap.size wr (wr.alloc (.cells #[.int .u64 er, .int .u64 mx, .slice x m c'] 71)) := (Below.refl _ _).alloc (Nat.le_refl _) _
    have HX := Lib.hid (box3 wr (.int .u64 er) (.int .u64 mx) (.slice x m c') 71)
    have hbW := Hb.out.trans (hal.mono Hb.out.size)
    have HXf := Lib.hid (fun w' (h : Below (wr.alloc (.cells #[.int .u64 er, .int .u64 mx, .slice x m c'] 71)).heap.size (wr.alloc (.cells #[.int .u64 er, .int .u64 mx, .slice x m c'] 71)) w') => And.intro (HX.out w' h).1 (And.intro (HX.out w' h).2.1 (And.intro (HX.out w' h).2.2 (Hqf.out w' (hbW.trans (h.mono hbW.size))))))
    have HgW := Lib.hid (hgr.out.below hal)
    have HoW := Lib.hid (hor.out.below hal)
    have HbW := Lib.hid hbW
    clear hal hbW HX Hqf hgr hor
    by_cases hd0 : d = 0
    · have hgp : rp = er := by rw [Hrp.out, if_pos hd0, he0 hd0]
      have hq1 : decide (0 < (d : Int)) = false := by rw [decide_eq_false_iff_not]; omega
      have hq2 : ¬ 0 < d := by omega
      subst hgp
      clear Hrp he0 hlt hd0 Hqp
      generalize hW : wr.alloc (.cells #[.int .u64 rp, .int .u64 mx, .slice x m c'] 71) = W at *
      obtain ⟨x1, x2, x3, -⟩ := HXf.out _ (Below.refl _ _)
      generalize u0 = ub at *
      have HXw := Lib.hid (fun w' (h : Below W.heap.size W w') => HXf.out w' h)
      clear HXf
      obtain ⟨x1, x2, x3, hIv⟩ := HXw.out W (Below.refl _ _)
      go_wp2_with fail
      refine (diffs_any x m c' 1 eh W hIv Hdo.out hm (Nat.le_refl _)).mono ?_
      rintro e w4 ⟨⟨vd, rfl, hod⟩, hb4⟩
      obtain ⟨y1, y2, y3, -⟩ := HXw.out w4 hb4
      obtain ⟨ad, cd, rfl, hUd⟩ := u64s_own hod Hdl.out
      have hal4 : Below w4.heap.size w4 (w4.alloc (.cells #[.int .u64 (rp : Int), .int .u64 (mx : Int), .int .u64 (m : Int)] 24)) := (Below.refl _ _).alloc (Nat.le_refl _) _
      have hRd := hUd.rd.below hal4
      obtain ⟨v6, w6, hrun, ho6, hg6⟩ := run_append_u64 (w := w4.alloc (.cells #[.int .u64 (rp : Int), .int .u64 (mx : Int), .int .u64 (m : Int)] 24)) w4.heap.size (.slice (some ⟨w4.heap.size, 0, none⟩) 3 3) 3 [rp, mx, m] (World.ownsRow_lit (e := 24) (size := 1) (base := w4.heap.size) w4 _ 3 (Nat.le_refl _) (by unfold maxLen; omega) rfl) ad (2 * m) cd (diffsN eh 1) hRd (by omega) (by simp)
      have Hrun := Lib.hid hrun
      obtain ⟨g6, c6, rfl, hg6b, hg6l, -, -⟩ := own_form ho6 (by omega)
      have Ho6 := Lib.hid (show w6.ownsRow w4.heap.size 24 1 (.slice (some ⟨g6, 0, none⟩) (3 + 2 * m) c6) (3 + 2 * m) (u64C (entN v d)) from by rw [Hen.out]; exact ho6)
      have hb46 : Below w4.heap.size w4 w6 := hal4.grown hg6 (by simp) (fun k hk => by simp [Value.ownBlock] at hk; omega)
      have HgW4 := Lib.hid (HgW.out.below hb4)
      have HoW4 := Lib.hid (HoW.out.below hb4)
      have Hg6 := Lib.hid (HgW4.out.below hb46)
      have Hu6 := Lib.hid (HoW4.out.below hb46)
      have hu6 : ∀ k, ub.ownBlock = some k → k < w4.heap.size := fun k hk => (HoW4.out.lt k hk).2
      have hs6 : w0.heap.size ≤ w6.heap.size := by have := Hg6.out.g.size; have := Hw.out.size; omega
      have Hlt6 := Lib.hid (show ∀ y ∈ entN v d, y < 18446744073709551616 from Hel.out)
      have Hlen6 := Lib.hid (show (entN v d).length = 3 + 2 * m from by rw [Hen.out]; simp [Hdlen.out]; omega)
      clear x1 x2 x3 hIv hb4 hod hUd hal4 hRd hrun ho6 hg6 hb46 HXw
      go_wp2_with (at_builtin; refine wpList_append_hr _ _ 151 rfl rfl _ _ rfl rfl _ _ Hrun.out ?_)
      clear Hrun y1 y2 y3
      generalize hEn : entN v d = EN at *
      have HEn := Lib.hid hEn
      clear hEn
      generalize packTo v d = P0 at *
      go_wp2
      go_loopw [0, 11, 57] (fun b _ i wi => ∃ j : Nat, j ≤ 3 + 2 * m ∧ i = .int .i64 j ∧ Hid (Grw w6 wi ub b) ∧ Hid (OwnB wi w0.heap.size b ((nums ++ P0) ++ EN.take j))) (fun _ _ i _ => (3 + 2 * m) - (intOf i).toNat)
      case atStart => exact ⟨0, by omega, rfl, Grw.refl _ _, by rw [List.take_zero, List.append_nil]; exact Hu6.out⟩
      case round =>
       obtain ⟨j, hj, rfl, hgi, hoi⟩ := hrel
       by_cases hjn : j < 3 + 2 * m
       · have hrow := hgi.out.row Ho6.out (fun k hk e => by
          have h1 : g6 = k := by simpa [Value.ownBlock] using hk
          have := hu6 k e
          omega)
         have q9 := hrow.cells (g := g6) rfl j _ (u64C_get EN j (by rw [Hlen6.out]; exact hjn))
         rw [add_at, Nat.zero_add] at q9
         have hxl := Hlt6.out _ (nth_mem (show j < EN.length by rw [Hlen6.out]; exact hjn))
         have Hst := Lib.hid (show EN.take (j + 1) = EN.take j ++ [nth EN j] from by rw [List.take_succ_eq_append_getElem (by rw [Hlen6.out]; exact hjn)]; simp [nth, show j < EN.length by rw [Hlen6.out]; exact hjn])
         have h0j : (0 : Int) ≤ j := by omega
         have h04j : (j : Int) < ((3 + 2 * m : Nat) : Int) := by omega
         have hnl : ((nums ++ P0) ++ EN.take j).length ≤ 1000000000000 := by
          rw [List.length_append, List.length_append, List.length_take]
          have := Hp0.out
          omega
         have hC := Lib.hid (putG_any w0.heap.size _ _ (nth EN j) wr hxl hoi.out (by have := hgi.out.g.size; omega) hnl)
         generalize nth EN j = xj at *
         clear hrow hxl hnl
         go_wp2_with fail
         refine hC.out.mono ?_
         rintro e w7 ⟨b', rfl, ho7, hg7⟩
         have Ho7 := Lib.hid ho7
         have Hg7 := Lib.hid (hgi.out.trans hg7); clear ho7 hg7
         go_wp2
         go_roundw
         case rel => exact ⟨j + 1, by omega, by go_num, Hg7.out, by rw [Hst.out, ← List.append_assoc]; exact Ho7.out⟩
         case measure => simp [intOf]; omega
       · obtain rfl : j = 3 + 2 * m := by omega
         have HoF := Lib.hid (show OwnB wr w0.heap.size _ (nums ++ packTo v (d + 1)) from by
          have h := hoi.out
          rw [List.take_of_length_le (by rw [Hlen6.out]; exact Nat.le_refl _)] at h
          rw [Hpk.out, ← List.append_assoc]
          exact h)
         have HgF := Lib.hid (Hg6.out.trans hgi.out)
         go_wp2
         go_roundw
         case rel => exact ⟨d + 1, by omega, by go_num, HgF.out, HoF.out⟩
         case measure => simp [intOf]; omega
    · have hlt := hlt (by omega)
      have hgp : rp = er - pr - 1 := by rw [Hrp.out, if_neg hd0]
      have hq1 : decide (0 < (d : Int)) = true := by rw [decide_eq_true_iff]; omega
      have hq2 : 0 < d := by omega
      have hsub : IntKind.i64.wrap ((d : Int) - 1) = ((d - 1 : Nat) : Int) := by rw [IntKind.wrap_i64]; omega
      have h01 : (0 : Int) ≤ ((d - 1 : Nat) : Int) := by omega
      have h03 : ((d - 1 : Nat) : Int) < (n : Int) := by omega
      have Hc1 := Lib.hid (Hqp.out (by omega))
      have hBt := Lib.hid (fun w => between_lt pr er w hlt hrl)
      rw [← hgp] at hBt
      clear hgp Hrp he0 hlt hd0 Hqp
      generalize d - 1 = d1 at *
      generalize hW : wr.alloc (.cells #[.int .u64 er, .int .u64 mx, .slice x m c'] 71) = W at *
      obtain ⟨x1, x2, x3, -⟩ := HXf.out _ (Below.refl _ _)
      have HXg := Lib.hid (fun w' (h : Below W.heap.size W w') => And.intro (Hc1.out w' (HbW.out.trans (h.mono HbW.out.size))) (HXf.out w' h).1)
      go_wp2_with fail
      refine wp_region_below (by kernel_rfl) (by kernel_rfl) ?_
      repeat (go_big_quiet_step ((intro hw; first
       | rfl
       | (obtain ⟨y1, y2⟩ := HXg.out _ hw
          first
          | (go_at_call 135; refine (hBt.out _).mono ?_; rintro e w4 ⟨rfl, rfl⟩; exact ⟨rfl, hw⟩)
          | (go_simp
             first | rfl | exact ⟨rfl, hw⟩ | (trace_state; fail))))))
      refine wpQuiet_nil ?_
      intro w3 hb3
      have HXf := Lib.hid (fun w' (h : Below w3.heap.size w3 w') => HXf.out w' (hb3.trans (h.mono hb3.size)))
      have HgW := Lib.hid (HgW.out.below hb3)
      have HoW := Lib.hid (HoW.out.below hb3)
      have HbW := Lib.hid (HbW.out.trans (hb3.mono HbW.out.size))
      clear hb3 x1 x2 x3 HXg Hc1 hW
      obtain ⟨W, hWe⟩ : ∃ W : World, W = w3 := ⟨_, rfl⟩
      rw [← hWe] at HXf HgW HoW HbW ⊢
      clear hWe
      obtain ⟨x1, x2, x3, -⟩ := HXf.out _ (Below.refl _ _)
      generalize u0 = ub at *
      have HXw := Lib.hid (fun w' (h : Below W.heap.size W w') => HXf.out w' h)
      clear HXf
      obtain ⟨x1, x2, x3, hIv⟩ := HXw.out W (Below.refl _ _)
      go_wp2_with fail
      refine (diffs_any x m c' 1 eh W hIv Hdo.out hm (Nat.le_refl _)).mono ?_
      rintro e w4 ⟨⟨vd, rfl, hod⟩, hb4⟩
      obtain ⟨y1, y2, y3, -⟩ := HXw.out w4 hb4
      obtain ⟨ad, cd, rfl, hUd⟩ := u64s_own hod Hdl.out
      have hal4 : Below w4.heap.size w4 (w4.alloc (.cells #[.int .u64 (rp : Int), .int .u64 (mx : Int), .int .u64 (m : Int)] 24)) := (Below.refl _ _).alloc (Nat.le_refl _) _
      have hRd := hUd.rd.below hal4
      obtain ⟨v6, w6, hrun, ho6, hg6⟩ := run_append_u64 (w := w4.alloc (.cells #[.int .u64 (rp : Int), .int .u64 (mx : Int), .int .u64 (m : Int)] 24)) w4.heap.size (.slice (some ⟨w4.heap.size, 0, none⟩) 3 3) 3 [rp, mx, m] (World.ownsRow_lit (e := 24) (size := 1) (base := w4.heap.size) w4 _ 3 (Nat.le_refl _) (by unfold maxLen; omega) rfl) ad (2 * m) cd (diffsN eh 1) hRd (by omega) (by simp)
      have Hrun := Lib.hid hrun
      obtain ⟨g6, c6, rfl, hg6b, hg6l, -, -⟩ := own_form ho6 (by omega)
      have Ho6 := Lib.hid (show w6.ownsRow w4.heap.size 24 1 (.slice (some ⟨g6, 0, none⟩) (3 + 2 * m) c6) (3 + 2 * m) (u64C (entN v d)) from by rw [Hen.out]; exact ho6)
      have hb46 : Below w4.heap.size w4 w6 := hal4.grown hg6 (by simp) (fun k hk => by simp [Value.ownBlock] at hk; omega)
      have HgW4 := Lib.hid (HgW.out.below hb4)
      have HoW4 := Lib.hid (HoW.out.below hb4)
      have Hg6 := Lib.hid (HgW4.out.below hb46)
      have Hu6 := Lib.hid (HoW4.out.below hb46)
      have hu6 : ∀ k, ub.ownBlock = some k → k < w4.heap.size := fun k hk => (HoW4.out.lt k hk).2
      have hs6 : w0.heap.size ≤ w6.heap.size := by have := Hg6.out.g.size; have := Hw.out.size; omega
      have Hlt6 := Lib.hid (show ∀ y ∈ entN v d, y < 18446744073709551616 from Hel.out)
      have Hlen6 := Lib.hid (show (entN v d).length = 3 + 2 * m from by rw [Hen.out]; simp [Hdlen.out]; omega)
      clear x1 x2 x3 hIv hb4 hod hUd hal4 hRd hrun ho6 hg6 hb46 HXw
      go_wp2_with (at_builtin; refine wpList_append_hr _ _ 151 rfl rfl _ _ rfl rfl _ _ Hrun.out ?_)
      clear Hrun y1 y2 y3
      generalize hEn : entN v d = EN at *
      have HEn := Lib.hid hEn
      clear hEn
      generalize packTo v d = P0 at *
      go_wp2
      go_loopw [0, 11, 57] (fun b _ i wi => ∃ j : Nat, j ≤ 3 + 2 * m ∧ i = .int .i64 j ∧ Hid (Grw w6 wi ub b) ∧ Hid (OwnB wi w0.heap.size b ((nums ++ P0) ++ EN.take j))) (fun _ _ i _ => (3 + 2 * m) - (intOf i).toNat)
      case atStart => exact ⟨0, by omega, rfl, Grw.refl _ _, by rw [List.take_zero, List.append_nil]; exact Hu6.out⟩
      case round =>
       obtain ⟨j, hj, rfl, hgi, hoi⟩ := hrel
       by_cases hjn : j < 3 + 2 * m
       · have hrow := hgi.out.row Ho6.out (fun k hk e => by
          have h1 : g6 = k := by simpa [Value.ownBlock] using hk
          have := hu6 k e
          omega)
         have q9 := hrow.cells (g := g6) rfl j _ (u64C_get EN j (by rw [Hlen6.out]; exact hjn))
         rw [add_at, Nat.zero_add] at q9
         have hxl := Hlt6.out _ (nth_mem (show j < EN.length by rw [Hlen6.out]; exact hjn))
         have Hst := Lib.hid (show EN.take (j + 1) = EN.take j ++ [nth EN j] from by rw [List.take_succ_eq_append_getElem (by rw [Hlen6.out]; exact hjn)]; simp [nth, show j < EN.length by rw [Hlen6.out]; exact hjn])
         have h0j : (0 : Int) ≤ j := by omega
         have h04j : (j : Int) < ((3 + 2 * m : Nat) : Int) := by omega
         have hnl : ((nums ++ P0) ++ EN.take j).length ≤ 1000000000000 := by
          rw [List.length_append, List.length_append, List.length_take]
          have := Hp0.out
          omega
         have hC := Lib.hid (putG_any w0.heap.size _ _ (nth EN j) wr hxl hoi.out (by have := hgi.out.g.size; omega) hnl)
         generalize nth EN j = xj at *
         clear hrow hxl hnl
         go_wp2_with fail
         refine hC.out.mono ?_
         rintro e w7 ⟨b', rfl, ho7, hg7⟩
         have Ho7 := Lib.hid ho7
         have Hg7 := Lib.hid (hgi.out.trans hg7); clear ho7 hg7
         go_wp2
         go_roundw
         case rel => exact ⟨j + 1, by omega, by go_num, Hg7.out, by rw [Hst.out, ← List.append_assoc]; exact Ho7.out⟩
         case measure => simp [intOf]; omega
       · obtain rfl : j = 3 + 2 * m := by omega
         have HoF := Lib.hid (show OwnB wr w0.heap.size _ (nums ++ packTo v (d + 1)) from by
          have h := hoi.out
          rw [List.take_of_length_le (by rw [Hlen6.out]; exact Nat.le_refl _)] at h
          rw [Hpk.out, ← List.append_assoc]
          exact h)
         have HgF := Lib.hid (Hg6.out.trans hgi.out)
         go_wp2
         go_roundw
         case rel => exact ⟨d + 1, by omega, by go_num, HgF.out, HoF.out⟩
         case measure => simp [intOf]; omega
  · obtain rfl : d = n := by omega
    have Ho := Lib.hid hor.out
    rw [← Hall.out] at Ho
    go_wp2
    go_ret
    exact ⟨_, rfl, Ho.out, hgr.out⟩
theorem segSort_any (base : Nat) (v : Value) (l : List Iv) (w : World) (ho : w.ownsRow base 73 2 v l.length (ivC l)) (hl : ∀ s ∈ l, s.1 < 18446744073709551616 ∧ s.2 < 18446744073709551616) (hn : l.length ≤ 100000) (hb : base ≤ w.heap.size) :
 Calls Tryz.prog 39 #[v, .func (.func 40) #[] #[]] w fun e w' => e = .returned (.tuple #[]) ∧ (∃ l' a c, v = .slice a l.length c ∧ l'.Perm l ∧ AscLo l' ∧ Ivs w' a l.length c l' ∧ ∀ p, a = some p → p.off = 0 ∧ p.block < w'.heap.size) ∧ Below base w w' := by
 rcases ho.2 with ⟨rfl, h0⟩ | ⟨g, cap, cur, rfl, hg, hr, hnc, hcm, hcs, htake⟩
 · have : l = [] := List.length_eq_zero_iff.1 h0
   subst this
   refine (sortNil_any w).mono ?_
   rintro e w' ⟨rfl, rfl⟩
   exact ⟨rfl, ⟨[], none, 0, rfl, List.Perm.refl _, (fun i j h1 h2 => by simp at h2), ivs_nil _, fun p h => by cases h⟩, Below.refl _ _⟩
 · have hgl : g < w.heap.size := (Array.getElem?_eq_some_iff.1 hr).1
   refine (sortIv_any g l.length cap l w rfl (holds_own ho) hgl hn).mono ?_
   rintro e w3 ⟨rfl, l', mm, os, hpm, hal, hw3⟩
   have hs' : l'.toArray.size = l.toArray.size := by simpa using hpm.length_eq
   have hl' : ∀ s ∈ l', s.1 < 18446744073709551616 ∧ s.2 < 18446744073709551616 := fun s hs => hl s (hpm.mem_iff.1 hs)
   have hI3 := sorted_cells (m := mm) os (holds_own ho) hs' hgl (by simpa using hl') (show l.toArray.size = l.length by simp) (by omega)
   have hb3 := below_sorted (n := mm) l'.toArray os (base := base) (g := g) (w := w) hg hb
   rw [← hw3] at hI3 hb3
   refine ⟨rfl, ⟨l', _, _, rfl, hpm, hal, ivs_recap (by simpa using hI3) hnc hcm, fun p h => ?_⟩, hb3⟩
   cases h
   exact ⟨rfl, Nat.lt_of_lt_of_le hgl hb3.size⟩
def idxTo (k : Kno) (l : List Iv) (j : Nat) : List Nat := (l.take j).map (fun s => posK k s.1) ++ List.replicate (l.length - j) 0
theorem idxTo_zero (k : Kno) (l : List Iv) : idxTo k l 0 = List.replicate l.length 0 := by simp [idxTo]
theorem idxTo_all (k : Kno) (l : List Iv) : idxTo k l l.length = l.map (fun s => posK k s.1) := by simp [idxTo]
theorem idxTo_len (k : Kno) (l : List Iv) {j : Nat} (h : j ≤ l.length) : (idxTo k l j).length = l.length := by simp [idxTo]; omega
theorem idxTo_set (k : Kno) {l : List Iv} {j : Nat} (h : j < l.length) : (i64C (idxTo k l j)).set j (.int .i64 ((posK k (nthI l j).1 : Nat) : Int)) = i64C (idxTo k l (j + 1)) := by
 unfold idxTo
 have hl : (((l.take j).map fun s => posK k s.1)).length = j := by simp; omega
 obtain ⟨m, hm⟩ : ∃ m, l.length - j = m + 1 := ⟨l.length - j - 1, by omega⟩
 have hm' : l.length - (j + 1) = m := by omega
 rw [hm, hm', List.replicate_succ, i64C_append, i64C_append, List.set_append_right _ _ (by rw [i64C_length, hl]; exact Nat.le_refl _), i64C_length, hl, Nat.sub_self, List.take_succ_eq_append_getElem h, List.map_append, i64C_append, nthI_get h, List.append_assoc]
 rfl
def SegRes (k : Kno) (base : Nat) (x : Ending) (w' : World) : Prop := ∃ l' a c gi, x = .returned (.tuple #[.slice a l'.length c, .slice (some ⟨gi, 0, none⟩) l'.length l'.length]) ∧ l'.Perm (flatK k) ∧ AscLo l' ∧ Ivs w' a l'.length c l' ∧
 w'.ownsRow base 3 1 (.slice (some ⟨gi, 0, none⟩) l'.length l'.length) l'.length (i64C (l'.map fun s => posK k s.1))
set_option maxRecDepth 20000 in
set_option maxHeartbeats 4000000 in
theorem segments_any (a : Option Addr) (n cap : Nat) (k : Kno) (w : World) (hE : Frags w a n cap k) (hG : ∀ f ∈ k, Good f.1) (hS : isum k ≤ 10000) :
 Calls Tryz.prog 12 #[.slice a n cap] w fun x w' => SegRes k w.heap.size x w' ∧ Below w.heap.size w w' := by
 have HE := Lib.hid hE
 have Hl := Lib.hid hE.len
 have hm : n ≤ 9223372036854775807 := Nat.le_trans hE.room hE.most
 have HS := Lib.hid (fun d => Nat.le_trans (flatK_take k d) hS)
 have Hlt := Lib.hid (show ∀ s ∈ flatK k, s.1 < 18446744073709551616 ∧ s.2 < 18446744073709551616 from fun s hs => by
  obtain ⟨f, hf, h⟩ := flatK_mem.1 hs
  exact (hE.all f hf).1 s h)
 have Hin := Lib.hid (show ∀ s ∈ flatK k, ∃ f ∈ k, mem f.1 s.1 = true from fun s hs => by
  obtain ⟨f, hf, h⟩ := flatK_mem.1 hs
  exact ⟨f, hf, (good_start (hG f hf) h).1⟩)
 have HGL := Lib.hid (show ∀ f ∈ k, Good f.1 ∧ f.1.length ≤ 1000000 from fun f hf => ⟨hG f hf, by have := isum_mem hf; omega⟩)
 have Hall := Lib.hid (show flatK (k.take n) = flatK k from by rw [← hE.len, List.take_length])
 have Hone := Lib.hid (fun f (hf : f ∈ k) => Nat.le_trans (isum_mem hf) hS)
 clear hE hG hS
 go_enter Tryz.func12, Tryz.ntmps12
 go_wp2
 go_loopw [4, 6, 12] (fun v _ i wr => ∃ d : Nat, d ≤ n ∧ i = .int .i64 d ∧ Below w.heap.size w wr ∧ Hid (wr.ownsRow w.heap.size 73 2 v (flatK (k.take d)).length (ivC (flatK (k.take d))))) (fun _ _ i _ => n - (intOf i).toNat)
 case atStart => exact ⟨0, by omega, rfl, Below.refl _ _, World.ownsRow_nil _ _ _ _⟩
 case round =>
  obtain ⟨d, hd, rfl, hb, ho⟩ := hrel
  have Hb := Lib.hid hb; clear hb
  by_cases hdn : d < n
  · have hdk : d < k.length := by rw [Hl.out]; exact hdn
    obtain ⟨bb, oo, rfl⟩ := HE.out.some (by omega)
    obtain ⟨x, m, c, y, m', c', hq⟩ := HE.out.fix hdn
    obtain ⟨q1, q2, q3, q4⟩ := hq wr Hb.out
    have Hst := Lib.hid (flatK_succ hdk)
    have HSd := Lib.hid (HS.out d)
    have Hfl := Lib.hid (Hone.out _ (nthF_mem hdk))
    have Hlen := Lib.hid (show (flatK (k.take (d + 1))).length = (flatK (k.take d)).length + m from by rw [flatK_succ hdk, List.length_append, q2.len])
    have hal : Below wr.heap.size wr (wr.alloc (.cells #[.slice x m c, .slice y m' c'] 39)) := (Below.refl _ _).alloc (Nat.le_refl _) _
    have HIa := Lib.hid (q2.below hal).rd
    have Hml := Lib.hid q2.len
    have HoA := Lib.hid (own_below ho.out hal)
    have Hal := Lib.hid hal
    have h0 : (0 : Int) ≤ d := by omega
    have h04 : (d : Int) < (n : Int) := by omega
    clear hq q2 q4 hal
    generalize flatK (k.take d) = F at *
    generalize (nthF k d).1 = fi at *
    go_wp2_with (at_builtin; refine wpList_append_ivs rfl (.tmp 16) (.tmp 18) rfl rfl w.heap.size _ F.length F rfl HoA.out x m c fi rfl HIa.out (by have := HSd.out; have := Hfl.out; have := Hml.out; omega) (by have := Hb.out.size; have := Hal.out.size; omega) ?_; intro v' w7 ho7 hg7)
    have Hb7 := Lib.hid (Below.grown (Hb.out.trans (Hal.out.mono Hb.out.size)) hg7 (by have := Hb.out.size; have := Hal.out.size; omega) (fun j hj => (HoA.out.lt j hj).1))
    go_roundw
    case rel => exact ⟨d + 1, by omega, by go_num, Hb7.out, by rw [Hlen.out, Hst.out]; exact ho7⟩
    case measure => simp [intOf]; omega
  · obtain rfl : d = n := by omega
    have hoF := ho.out
    clear ho
    rw [Hall.out] at hoF
    have HC := Lib.hid (segSort_any w.heap.size _ (flatK k) wr hoF Hlt.out (by have := HS.out d; rw [Hall.out] at this; omega) Hb.out.size)
    have HN := Lib.hid (show (flatK k).length ≤ 10000 from by have := HS.out d; rwa [Hall.out] at this)
    clear hoF
    go_wp2_with fail
    refine HC.out.mono ?_
    rintro e w3 ⟨rfl, ⟨l', a', c', rfl, hpm, hasc, hI3, ha3⟩, hb3⟩
    have Hb3 := Lib.hid (Hb.out.trans hb3)
    have Hpm := Lib.hid hpm; have Hasc := Lib.hid hasc
    obtain ⟨N, hN⟩ : ∃ N, N = (flatK k).length := ⟨_, rfl⟩
    have hlN : l'.length = N := by rw [hN]; exact hpm.length_eq
    rw [← hN] at hI3 HN ⊢
    have hN2 : N ≤ 10000 := HN.out
    obtain ⟨w4, hr4, ho4, hb4⟩ := run_make_int w3 w.heap.size N (by omega) Hb3.out.size
    obtain ⟨gi, hgi⟩ : ∃ gi, gi = w3.heap.size := ⟨_, rfl⟩
    rw [← hgi] at hr4 ho4
    have Hb4 := Lib.hid (Hb3.out.trans (hb4.mono Hb3.out.size))
    have HI4 := Lib.hid (hI3.below hb4)
    have Ho4 := Lib.hid (show w4.ownsRow w.heap.size 3 1 (.slice (some ⟨gi, 0, none⟩) N N) N (i64C (idxTo k l' 0)) from by rw [idxTo_zero, hlN]; exact ho4)
    have HNl := Lib.hid hlN
    have hgi0 : w.heap.size ≤ gi := by rw [hgi]; exact Hb3.out.size
    have Ha3 := Lib.hid (show ∀ p, a' = some p → p.off = 0 ∧ p.block < gi from by rw [hgi]; exact ha3)
    clear hpm hasc hI3 hN hlN ho4 hb4 hgi hb3 HC ha3
    go_wp2
    clear hr4
    go_loopw [8, 9, 28] (fun _ _ i wq => ∃ j : Nat, j ≤ N ∧ i = .int .i64 j ∧ Kept (fun b => b ≠ gi) w4 wq ∧ Hid (wq.ownsRow w.heap.size 3 1 (.slice (some ⟨gi, 0, none⟩) N N) N (i64C (idxTo k l' j)))) (fun _ _ i _ => N - (intOf i).toNat)
    case atStart => exact ⟨0, by omega, rfl, Kept.refl _ _, Ho4⟩
    case round =>
     obtain ⟨j, hj, rfl, hk, ho⟩ := hrel
     have Hk := Lib.hid hk; clear hk
     by_cases hjN : j < N
     · obtain ⟨bS, oS, rfl, hcS⟩ := HI4.out.cells (by omega)
       obtain ⟨rfl, hbg⟩ := Ha3.out _ rfl
       have HIr := ivs_kept HI4.out Hk.out (by simp only at hbg ⊢; omega)
       obtain ⟨_, _, e, hcS⟩ := HIr.cells (by omega)
       cases e
       obtain ⟨q1, q2⟩ := hcS j hjN
       have hjl : j < l'.length := by rw [HNl.out]; exact hjN
       have hmem := Hpm.out.mem_iff.1 (nthI_mem hjl)
       have hpos := posK_int (Hin.out _ hmem)
       have Hset := Lib.hid (idxTo_set k hjl)
       have Hlj := Lib.hid (idxTo_len k l' (Nat.le_of_lt hjl))
       have hbw : Below w.heap.size w wr := Hb4.out.trans (Hk.out.toBelow (fun b hb => by omega) Hb4.out.size)
       have Hbw := Lib.hid hbw
       have hal : Below wr.heap.size wr (wr.alloc (.cells #[.int .u64 ((nthI l' j).1 : Nat), .int .u64 ((nthI l' j).2 : Nat)] 73)) := (Below.refl _ _).alloc (Nat.le_refl _) _
       have hF := canFind_any a d cap (nthI l' j).1 k _ (HE.out.below (hbw.trans (hal.mono hbw.size))) HGL.out
       rw [hpos] at hF
       have HF := Lib.hid hF
       have Hal := Lib.hid hal
       have h0 : (0 : Int) ≤ j := by omega
       have h04 : (j : Int) < (N : Int) := by omega
       generalize posK k (nthI l' j).1 = P at *
       generalize nthI l' j = s at *
       obtain ⟨sx, sy⟩ := s
       simp only at q1 q2 HF Hal
       rw [Nat.zero_add] at q1 q2
       clear hcS HIr hmem hpos hbw hal hF
       go_wp2_with fail
       refine HF.out.mono ?_
       rintro e w6 ⟨rfl, hb6⟩
       have Hb6 := Lib.hid (Hal.out.trans (hb6.mono Hal.out.size))
       have Ho6 := Lib.hid (own_below ho.out Hb6.out)
       have z1 := own_frozen Ho6.out j
       have z2 := Ho6.out.cells (g := gi) rfl j _ (i64C_get _ j (by rw [Hlj.out]; exact hjl))
       rw [add_at, Nat.zero_add] at z2
       clear hb6 q1 q2 hjl
       go_wp2
       go_roundw
       case rel => exact ⟨j + 1, by omega, by go_num, (Hk.out.below Hb6.out).setCell (fun _ h => h rfl) _, by rw [← Hset.out]; exact (Ho6.out.stored j _).1⟩
       case measure => simp [intOf]; omega
     · obtain rfl : j = N := by omega
       have HoE := Lib.hid (show wr.ownsRow w.heap.size 3 1 (.slice (some ⟨gi, 0, none⟩) l'.length l'.length) l'.length (i64C (l'.map fun s => posK k s.1)) from by rw [← idxTo_all, HNl.out]; exact ho.out)
       have HbE := Lib.hid (Hb4.out.trans (Hk.out.toBelow (fun b hb => by omega) Hb4.out.size))
       have HIE := Lib.hid (show Ivs wr a' l'.length c' l' from by
        rw [HNl.out]
        rcases Nat.eq_zero_or_pos j with h | h
        · exact ⟨HI4.out.len, HI4.out.lt, HI4.out.room, HI4.out.most, HI4.out.nilc, fun h' => by omega⟩
        · obtain ⟨bS, oS, rfl, -⟩ := HI4.out.cells h
          obtain ⟨rfl, hbg⟩ := Ha3.out _ rfl
          exact ivs_kept HI4.out Hk.out (by simp only at hbg ⊢; omega))
       have HNE := Lib.hid HNl.out.symm
       go_wp2
       go_ret2
       exact ⟨⟨l', a', c', gi, by rw [HNl.out]; rfl, Hpm.out, Hasc.out, HIE.out, HoE.out⟩, HbE.out⟩
theorem addC_any (s1 : Value) (y b : Option Addr) (m c m' c' : Nat) (v u : Vec) (w : World) (hV : Ents w y m c v) (hU : Ents w b m' c' u) (fv : VecFits v) (fu : VecFits u) :
 Calls Tryz.prog 153 #[.agg #[s1, .slice y m c], .slice b m' c'] w fun x w' => x = .returned (.int .i64 (cmpV v u)) ∧ Below w.heap.size w w' := by
 have hal : Below w.heap.size w (w.alloc (.cells #[s1, .slice y m c] 39)) := (Below.refl w.heap.size w).alloc (Nat.le_refl _) _
 have hC := Lib.hid (vecCompare_any y b m c m' c' v u _ (hV.below hal) (hU.below hal) fv fu)
 obtain ⟨q0, q1⟩ := box2' w s1 (.slice y m c) 39 _ (Below.refl _ _)
 have Hal := Lib.hid hal
 generalize cmpV v u = z at *
 clear hV hU fv fu hal
 go_enter Tryz.func153, Tryz.ntmps153
 go_wp2_with fail
 refine hC.out.mono ?_
 rintro e w1 ⟨rfl, hb1⟩
 have Hb1 := Lib.hid hb1; clear hb1
 go_wp2
 go_ret
 exact ⟨rfl, Hal.out.trans (Hb1.out.mono Hal.out.size)⟩
theorem vec_mono {k : Kno} (h : k.Pairwise VecLt) {i j : Nat} (hij : i < j) (hj : j < k.length) : cmpV (nthF k i).2 (nthF k j).2 = -1 := by
 have := List.pairwise_iff_getElem.1 h i j (by omega) hj hij
 rw [nthF_get (by omega), nthF_get hj]
 exact this
set_option maxHeartbeats 4000000 in
set_option maxRecDepth 20000 in
theorem bsK_any (a b : Option Addr) (n cap m c : Nat) (k : Kno) (v : Vec) (w : World) (hE : Frags w a n cap k) (hV : Ents w b m c v) (hA : k.Pairwise VecLt) (hn : n ≤ 1000000) (fk : ∀ f ∈ k, VecFits f.2) (fv : VecFits v) :
 Calls Tryz.prog 152 #[.slice a n cap, .slice b m c, .func (.func 153) #[] #[]] w fun e w' =>
  e = .returned (.tuple #[.int .i64 (posG k v : Int), .bool (hitG k v)]) ∧ Below w.heap.size w w' := by
 have HE := Lib.hid hE; have HA := Lib.hid hA
 have HV := Lib.hid hV; have HFk := Lib.hid fk; have HFv := Lib.hid fv
 have Hl := Lib.hid hE.len
 clear hE hA hV fk fv
 go_enter Tryz.func152, Tryz.ntmps152
 go_wp2
 go_loopw [9, 10, 11] (fun i j _ wr => ∃ p q : Nat, p ≤ q ∧ q ≤ n ∧ i = .int .i64 p ∧ j = .int .i64 q ∧ Below w.heap.size w wr ∧ Hid ((∀ t, t < p → cmpV (nthF k t).2 v = -1) ∧ ∀ t, q ≤ t → t < n → cmpV (nthF k t).2 v ≠ -1)) (fun i j _ _ => (intOf j).toNat - (intOf i).toNat)
 case atStart => exact ⟨0, n, by omega, by omega, rfl, rfl, Below.refl _ _, fun t ht => by omega, fun t h1 h2 => by omega⟩
 case round =>
  obtain ⟨p, q, hpq, hqn, rfl, rfl, hb, ht⟩ := hrel
  have Hb := Lib.hid hb; clear hb
  have HEr := Lib.hid (HE.out.below Hb.out)
  by_cases hlt : p < q
  · obtain ⟨bb, oo, rfl⟩ := HEr.out.some (by omega)
    obtain ⟨h, hh, hph, hhq⟩ : ∃ h : Nat, ((p : Int) + (q : Int)) / 2 = (h : Int) ∧ p ≤ h ∧ h < q := ⟨(p + q) / 2, by omega, by omega, by omega⟩
    have hhn : h < n := by omega
    have hhk : h < k.length := by rw [Hl.out]; exact hhn
    obtain ⟨x, m1, c1, y, m2, c2, hq⟩ := HEr.out.fix hhn
    obtain ⟨hc1, -, hc2, hyV⟩ := hq _ (Below.refl _ _)
    clear hq
    have hC := Lib.hid (addC_any (.slice x m1 c1) y b m2 c2 m c (nthF k h).2 v wr hyV (HV.out.below Hb.out) (HFk.out _ (nthF_mem hhk)) HFv.out)
    have Hms := Lib.hid (fun t (ht : t < h) => vec_mono HA.out ht hhk)
    have Hms2 := Lib.hid (fun t (ht : h < t) (htl : t < n) => vec_mono HA.out ht (by rw [Hl.out]; exact htl))
    have hrg := cmpV_range (nthF k h).2 v
    clear hyV
    by_cases hlx : cmpV (nthF k h).2 v = -1
    · have Hr := Lib.hid (show ∀ t, t < h + 1 → cmpV (nthF k t).2 v = -1 from by
       intro t htt
       by_cases e : t = h
       · subst e; exact hlx
       · exact cmpV_trans (Hms.out t (by omega)) hlx)
      have hci : decide (cmpV (nthF k h).2 v < 0) = true := by rw [hlx]; rfl
      generalize cmpV (nthF k h).2 v = ci at *
      clear hlx hrg
      go_wp2_with fail
      refine hC.out.mono ?_
      rintro e w1 ⟨rfl, hb1⟩
      have Hb1 := Lib.hid (Hb.out.trans (hb1.mono Hb.out.size)); clear hb1
      clear hc1 hc2 hh
      go_wp2_with fail
      go_roundw
      case rel => exact ⟨h + 1, q, by omega, by omega, by go_num, rfl, Hb1.out, Hr.out, ht.out.2⟩
      case measure => simp [intOf]; omega
    · have Hr := Lib.hid (show ∀ t, h ≤ t → t < n → cmpV (nthF k t).2 v ≠ -1 from by
       intro t htt htn
       by_cases e : t = h
       · subst e; exact hlx
       · intro h2
         exact hlx (cmpV_trans (Hms2.out t (by omega) htn) h2))
      have hci : decide (cmpV (nthF k h).2 v < 0) = false := by
       rw [decide_eq_false_iff_not]; rcases hrg with h | h | h <;> omega
      generalize cmpV (nthF k h).2 v = ci at *
      clear hlx hrg
      go_wp2_with fail
      refine hC.out.mono ?_
      rintro e w1 ⟨rfl, hb1⟩
      have Hb1 := Lib.hid (Hb.out.trans (hb1.mono Hb.out.size)); clear hb1
      clear hc1 hc2 hh
      go_wp2_with fail
      go_roundw
      case rel => exact ⟨p, h, by omega, by omega, rfl, rfl, Hb1.out, ht.out.1, Hr.out⟩
      case measure => simp [intOf]; omega
  · obtain rfl : p = q := by omega
    by_cases hpn : p < n
    · obtain ⟨bb, oo, rfl⟩ := HEr.out.some (by omega)
      have hpk : p < k.length := by rw [Hl.out]; exact hpn
      have hpos : p = posG k v := posG_unique (by omega) ht.out.1 (fun h => ht.out.2 p (Nat.le_refl _) hpn)
      have hhit := (posG_at (k := k) (v := v) (by rw [← hpos]; exact hpk)).2
      rw [← hpos] at hhit
      have Hpos := Lib.hid hpos; have Hhit := Lib.hid hhit
      obtain ⟨x, m1, c1, y, m2, c2, hq⟩ := HEr.out.fix hpn
      obtain ⟨hc1, -, hc2, hyV⟩ := hq _ (Below.refl _ _)
      clear hq
      have hC := Lib.hid (addC_any (.slice x m1 c1) y b m2 c2 m c (nthF k p).2 v wr hyV (HV.out.below Hb.out) (HFk.out _ (nthF_mem hpk)) HFv.out)
      have hd : decide (p < n) = true := by rw [decide_eq_true_iff]; exact hpn
      have hci : (cmpV (nthF k p).2 v == 0) = decide (cmpV (nthF k p).2 v = 0) := by
       by_cases h : cmpV (nthF k p).2 v = 0
       · rw [h]; rfl
       · rw [decide_eq_false h, beq_eq_false_iff_ne]; exact h
      have Hci := Lib.hid hci
      generalize cmpV (nthF k p).2 v = ci at *
      clear hyV hpos hhit hci
      go_wp2_with fail
      refine hC.out.mono ?_
      rintro e w1 ⟨rfl, hb1⟩
      have Hb1 := Lib.hid (Hb.out.trans (hb1.mono Hb.out.size)); clear hb1
      clear hc1 hc2
      go_wp2
      go_ret2
      exact ⟨by rw [Hhit.out, ← Hci.out, ← Hpos.out]; rfl, Hb1.out⟩
    · obtain rfl : p = n := by omega
      have hpos : k.length = posG k v := posG_unique (Nat.le_refl _) (fun j hj => ht.out.1 j (by rw [← Hl.out]; exact hj)) (fun h => by omega)
      have hhit := hitG_end hpos.symm
      have Hr := Lib.hid (show (Value.tuple #[.int .i64 (p : Int), .bool false]) = .tuple #[.int .i64 (posG k v : Int), .bool (hitG k v)] from by rw [← hpos, hhit, Hl.out])
      have hd : decide (p < p) = false := by simp
      clear hpos hhit
      go_wp2
      go_ret2
      exact ⟨by rw [← Hr.out]; rfl, Hb.out⟩
end
end Go.Proofs.YtkkdlgcfcbaibaaGreatDoor
