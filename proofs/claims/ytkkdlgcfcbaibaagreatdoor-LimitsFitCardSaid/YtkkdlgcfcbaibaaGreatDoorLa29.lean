/- Walks and laws, joined: La29. -/
import Derived.Lib.IfaceEq
import Derived.Deep.Slices
import Derived.Test.YtkkdlgcfcbaibaaGreatDoorLa01
import Derived.Test.YtkkdlgcfcbaibaaGreatDoorLa28
import Derived.Test.YtkkdlgcfcbaibaaGreatDoorLa20
import Derived.Test.YtkkdlgcfcbaibaaGreatDoorLa02
import Derived.Test.YtkkdlgcfcbaibaaGreatDoorLa22
import Derived.Test.YtkkdlgcfcbaibaaGreatDoorLa19
set_option linter.unusedVariables false
namespace Go.Proofs.YtkkdlgcfcbaibaaGreatDoor
section
open Go.RowKit
theorem run_append_byts {w : World} (base : Nat) (v : Value) (n : Nat) (xs : List Value) (hown : w.ownsRow base 5 1 v n xs) (a : Option Addr) (m c : Nat) (l : List Nat) (hB : Byts w a m c l)
 (hbytes : n + m ≤ 140737488355328) (hbase : base ≤ w.heap.size) :
 ∃ v' w', (Builtin.append_ #[103, 103] 103 #[v, .slice a m c]).run Tryz.prog w = .ok v' w' ∧ w'.ownsRow base 5 1 v' (n + m) (xs ++ u8s l) ∧ w.grownBy w' v.ownBlock := by
 obtain ⟨i0, hi, hz0, hz1, hz2⟩ := info_parts Tryz.info_u8
 cases a with
 | none =>
  have hc := hB.nilc rfl
  have hm := hB.room
  obtain rfl : m = 0 := by omega
  subst hc
  have hl : l = [] := List.length_eq_zero_iff.1 hB.len
  subst hl
  refine ⟨v, w, run_append_owned_none _ base _ _ _ i0 1 Tryz.underlying103 hi v n xs hown, by simpa [u8s] using hown, ⟨rfl, rfl, rfl, Nat.le_refl _, fun _ _ _ => rfl⟩⟩
 | some x =>
  obtain ⟨v', w', hr, ho, hg, _⟩ := run_append_own (P := Tryz.prog) w base 103 103 5 i0 (.int .u8 0) 1 1 Tryz.underlying103 hi hz0 hz1 hz2 rfl (by decide) v n xs hown x m c (u8s l)
   (by rw [u8s_length, hB.len]; omega) hB.news (by intro u hu; simp [u8s] at hu; obtain ⟨y, _, rfl⟩ := hu; rfl) (by unfold maxLen; omega) (by omega) hbase
  exact ⟨v', w', hr, ho, hg⟩
set_option maxHeartbeats 400000 in
theorem size_any (x : Nat) (w : World) (hx : x < 18446744073709551616) :
 Calls Tryz.prog 140 #[.int .u64 x] w fun e w' => e = .returned (.int .i64 ((vbytes x).length : Nat)) ∧ w = w' := by
 have Hs := Lib.hid (vbytes_size hx)
 have hb := Lib.bitLen_le x 64 (by omega) (by simpa using hx)
 go_enter Tryz.func140, Tryz.ntmps140
 go_wp2_with fail
 refine (Tryz.bits_Len64 x w (by omega) (by omega)).mono ?_
 rintro e w' ⟨rfl, rfl⟩
 rw [Int.toNat_natCast]
 generalize Lib.bitLen x = b at *
 go_wp2_with fail
 go_ret
 exact ⟨ret_int (by rw [← Hs.out]; omega), rfl⟩
theorem vbF_bits (x : Nat) (hx : x < 18446744073709551616) : bits .or .u8 ((x : Int) % 256) 128 = ((x % 128 + 128 : Nat) : Int) := by
 have h := or128 (x % 256) (by omega)
 rw [show ((x % 256 : Nat) : Int) = (x : Int) % 256 from by omega] at h
 rw [h]
 congr 1
 omega
set_option maxHeartbeats 1000000 in
theorem refvar_any : ∀ (k x : Nat) (w : World), x < 2 ^ (7 * k + 7) → x < 18446744073709551616 → k ≤ 9 →
 Calls Tryz.prog 146 #[.int .u64 x] w fun e w' => ∃ v', e = .returned v' ∧ w'.ownsRow w.heap.size 5 1 v' (vbF k x).length (u8s (vbF k x)) ∧ Below w.heap.size w w' := by
 intro k
 induction k with
 | zero =>
  intro x w hx h64 _
  have h128 : x < 128 := by simpa using hx
  have ho := World.ownsRow_lit (e := 5) (size := 1) (base := w.heap.size) w #[.int .u8 (x : Int)] 1 (Nat.le_refl _) (by unfold maxLen; omega) rfl
  have Ho := Lib.hid ho; clear ho hx h64
  have hlt : decide ((x : Int) < 128) = true := by rw [decide_eq_true_iff]; omega
  have hm : ((x : Int) % 256) = (x : Int) := by omega
  have He := Lib.hid (show vbF 0 x = [x] from by simp [vbF]; omega)
  go_enter Tryz.func146, Tryz.ntmps146
  go_wp2_with fail
  go_ret
  exact ⟨_, rfl, by rw [He.out]; exact Ho.out, (Below.refl _ _).alloc (Nat.le_refl _) _⟩
 | succ k ih =>
  intro x w hx h64 hk
  by_cases h128 : x < 128
  · have ho := World.ownsRow_lit (e := 5) (size := 1) (base := w.heap.size) w #[.int .u8 (x : Int)] 1 (Nat.le_refl _) (by unfold maxLen; omega) rfl
    have Ho := Lib.hid ho; clear ho hx h64
    have hlt : decide ((x : Int) < 128) = true := by rw [decide_eq_true_iff]; omega
    have hm : ((x : Int) % 256) = (x : Int) := by omega
    have He := Lib.hid (show vbF (k + 1) x = [x] from by rw [vbF_succ, if_pos h128])
    have Ih := Lib.hid ih; clear ih
    go_enter Tryz.func146, Tryz.ntmps146
    go_wp2_with fail
    go_ret
    exact ⟨_, rfl, by rw [He.out]; exact Ho.out, (Below.refl _ _).alloc (Nat.le_refl _) _⟩
  · have hge : decide ((x : Int) < 128) = false := by rw [decide_eq_false_iff_not]; omega
    have hd : x / 128 < 2 ^ (7 * k + 7) := by
     rw [show 7 * (k + 1) + 7 = (7 * k + 7) + 7 from by omega, Nat.pow_add] at hx
     generalize 2 ^ (7 * k + 7) = P at *
     exact Nat.div_lt_of_lt_mul (by omega)
    have hq256 : x % 128 + 128 < 256 := by omega
    have Hxd := Lib.hid (show ((x : Int) / 128) = ((x / 128 : Nat) : Int) from by omega)
    have He := Lib.hid (show vbF (k + 1) x = (x % 128 + 128) :: vbF k (x / 128) from by rw [vbF_succ, if_neg h128])
    have hl := vbF_len_le k (x / 128)
    have Hl := Lib.hid (vbF_lt k (x / 128))
    have Ih := Lib.hid (fun w => ih (x / 128) w hd (by have := Nat.div_le_self x 128; omega) (by omega)); clear ih
    have ho1 := World.ownsRow_lit (e := 5) (size := 1) (base := w.heap.size) w #[.int .u8 ((x : Int) % 128 + 128)] 1 (Nat.le_refl _) (by unfold maxLen; omega) rfl
    have Ho1 := Lib.hid ho1; clear ho1
    clear hx hd
    go_enter Tryz.func146, Tryz.ntmps146
    go_wp2_with fail
    rw [Hxd.out]
    refine (Ih.out _).mono ?_
    rintro e w2 ⟨v2, rfl, ho2, hb2⟩
    obtain ⟨a2, c2, rfl, hB2⟩ := byts_own ho2 Hl.out
    have h1' := own_below Ho1.out hb2
    have hbb : Below w.heap.size w w2 := ((Below.refl _ _).alloc (Nat.le_refl _) _).trans (hb2.mono (by simp only [World.size_alloc]; omega))
    obtain ⟨v3, w3, hr3, ho3, hg3⟩ := run_append_byts w.heap.size _ 1 _ h1' a2 _ c2 _ hB2 (by omega) hbb.size
    have Ho3 := Lib.hid ho3
    have hb3 := hbb.grown hg3 hbb.size (by intro k hk; simp [Value.ownBlock] at hk; omega)
    clear hg3 hb2 ho2 hB2 h1' ho3 hbb
    go_wp2_with (at_builtin; refine wpList_append_hr _ _ 103 rfl rfl _ _ rfl rfl _ _ hr3 ?_)
    go_ret
    refine ⟨_, rfl, ?_, hb3⟩
    have h4 := Ho3.out
    rw [show ((x : Int) % 128 + 128) = ((x % 128 + 128 : Nat) : Int) from by omega] at h4
    rw [He.out, List.length_cons, Nat.add_comm]
    exact h4
theorem Ivs.at {w : World} {b o n c : Nat} {l : List Iv} (h : Ivs w (some ⟨b, o, none⟩) n c l) {j : Nat} (hj : j < n) (w' : World) (hb : Below w.heap.size w w') : w'.cell? ⟨b, o + j * 2, none⟩ = some (.int .u64 (((nthI l j).1 : Nat) : Int)) ∧ w'.cell? ⟨b, o + j * 2 + 1, none⟩ = some (.int .u64 (((nthI l j).2 : Nat) : Int)) := by
 obtain ⟨b', o', e, hc⟩ := (h.below hb).cells (by omega)
 cases e
 exact hc j hj
theorem Zs.at {w : World} {b o n c : Nat} {l : List Int} (h : Zs w (some ⟨b, o, none⟩) n c l) {j : Nat} (hj : j < n) (w' : World) (hb : Below w.heap.size w w') : w'.cell? ⟨b, o + j, none⟩ = some (.int .i64 (nthZ l j)) := by
 obtain ⟨b', o', e, hc⟩ := (h.below hb).cells (by omega)
 cases e
 exact hc j hj
theorem Zs.some {w : World} {a : Option Addr} {n c : Nat} {l : List Int} (h : Zs w a n c l) (hn : 0 < n) : ∃ b o, a = some ⟨b, o, none⟩ := by
 obtain ⟨b, o, ha, -⟩ := h.cells hn
 exact ⟨b, o, ha⟩
theorem Ivs.some {w : World} {a : Option Addr} {n c : Nat} {l : List Iv} (h : Ivs w a n c l) (hn : 0 < n) : ∃ b o, a = some ⟨b, o, none⟩ := by
 obtain ⟨b, o, ha, -⟩ := h.cells hn
 exact ⟨b, o, ha⟩
def OwnB (w : World) (base : Nat) (v : Value) (l : List Nat) : Prop := w.ownsRow base 5 1 v (joinB l).length (u8s (joinB l))
theorem OwnB.below {w w' : World} {base : Nat} {v : Value} {l : List Nat} (h : OwnB w base v l) (hb : Below w.heap.size w w') : OwnB w' base v l := own_below h hb
theorem ownB_nil (w : World) (base : Nat) : OwnB w base (.slice none 0 0) [] := World.ownsRow_nil _ _ _ _
theorem join_any (base : Nat) (v : Value) (n : Nat) (xs : List Nat) (A : Option Addr) (c x y : Nat) (w : World) (hown : w.ownsRow base 24 1 v n (u64C xs)) (hr : Rd w 1 A 2 (u64C [x, y])) (hb : n + 2 ≤ 1000000) (hbase : base ≤ w.heap.size) :
 Calls Tryz.prog 141 #[v, .slice A 2 c] w fun e w' => (∃ v', e = .returned v' ∧ w'.ownsRow base 24 1 v' (n + 2) (u64C (xs ++ [x, y]))) ∧ Below base w w' := by
 obtain ⟨v', w', hrun, h1, h2⟩ := run_append_u64 base v n xs hown A 2 c [x, y] hr hb hbase
 have Hrun := Lib.hid hrun; have H1 := Lib.hid h1
 have Hb := Lib.hid (Below.grown (B := base) (Below.refl _ _) h2 hbase (fun k hk => (hown.lt k hk).1))
 clear hrun h1 h2 hown hr
 go_enter Tryz.func141, Tryz.ntmps141
 go_wp2_with (at_builtin; refine wpList_append_hr _ _ 151 rfl rfl _ _ rfl rfl _ _ Hrun.out ?_)
 go_ret
 exact ⟨⟨_, rfl, H1.out⟩, Hb.out⟩
set_option maxRecDepth 20000 in
set_option maxHeartbeats 4000000 in
theorem diffs_any (a : Option Addr) (n c ap : Nat) (l : List Iv) (w : World) (hI : Ivs w a n c l) (hD : DiffOk l ap) (hn : n ≤ 100000) (hap : ap ≤ 1) :
 Calls Tryz.prog 97 #[.slice a n c, .int .u64 ap] w fun e w' => (∃ v, e = .returned (.tuple #[v, .bool true]) ∧ w'.ownsRow w.heap.size 24 1 v (2 * n) (u64C (diffsN l ap))) ∧ Below w.heap.size w w' := by
 have HI := Lib.hid hI
 have Hl := Lib.hid hI.len
 have HD := Lib.hid hD
 have Hlt := Lib.hid hI.lt
 have Hall := Lib.hid (show diffsN l ap = diffsTo l ap n from by rw [← hI.len]; rfl)
 clear hI hD
 go_enter Tryz.func97, Tryz.ntmps97
 go_wp2
 go_loopw [6, 7, 8, 9, 10, 11, 14] (fun v _ _ _ _ _ i wr => ∃ d : Nat, d ≤ n ∧ i = .int .i64 d ∧ Below w.heap.size w wr ∧ Hid (wr.ownsRow w.heap.size 24 1 v (2 * d) (u64C (diffsTo l ap d)))) (fun _ _ _ _ _ _ i _ => n - (intOf i).toNat)
 case atStart => exact ⟨0, by omega, rfl, Below.refl _ _, World.ownsRow_nil _ _ _ _⟩
 case round =>
  obtain ⟨d, hd, rfl, hb, ho⟩ := hrel
  have Hb := Lib.hid hb; clear hb
  by_cases hdn : d < n
  · obtain ⟨bl, ol, rfl⟩ := HI.out.some (by omega)
    have Hc := Lib.hid (fun w' (h : Below wr.heap.size wr w') => HI.out.at hdn w' (Hb.out.trans (h.mono Hb.out.size)))
    have Hc' := Lib.hid (fun (h1 : d - 1 < n) w' (h : Below wr.heap.size wr w') => HI.out.at h1 w' (Hb.out.trans (h.mono Hb.out.size)))
    obtain ⟨g1, g2⟩ := HD.out d (by rw [Hl.out]; exact hdn)
    have l1 := (Hlt.out _ (nthI_mem (l := l) (k := d) (by rw [Hl.out]; exact hdn)))
    have Hst := Lib.hid (show diffsTo l ap (d + 1) = diffsTo l ap d ++ [gapI l ap d, (nthI l d).2 - (nthI l d).1] from rfl)
    have Hg := Lib.hid (show gapI l ap d = if d = 0 then (nthI l 0).1 else (nthI l d).1 - (nthI l (d - 1)).2 - 1 - ap from rfl)
    have hg0 : d = 0 → nthI l 0 = nthI l d := fun h => by rw [h]
    obtain ⟨q1, q2⟩ := Hc.out _ (Below.refl _ _)
    have h0 : (0 : Int) ≤ d := by omega
    have h04 : (d : Int) < (n : Int) := by omega
    generalize gapI l ap d = gp at *
    generalize nthI l 0 = s0 at *
    generalize nthI l d = s at *
    generalize nthI l (d - 1) = p at *
    obtain ⟨sx, sy⟩ := s
    obtain ⟨px, py⟩ := p
    simp only at q1 q2 Hc Hc' Hst Hg g1 g2 l1
    have hd1 : decide ((sy : Int) < (sx : Int)) = false := by rw [decide_eq_false_iff_not]; omega
    have hd2 : decide (sy < sx) = false := by rw [decide_eq_false_iff_not]; omega
    have hsz : IntKind.u64.wrap ((sy : Int) - (sx : Int)) = ((sy - sx : Nat) : Int) := by rw [IntKind.wrap_u64]; omega
    have hal : Below wr.heap.size wr (wr.alloc (.cells #[.int .u64 sx, .int .u64 sy] 73)) := (Below.refl _ _).alloc (Nat.le_refl _) _
    have HX := Lib.hid (box2 wr (.int .u64 sx) (.int .u64 sy) 73)
    have Hal := Lib.hid hal
    generalize hsz2 : sy - sx = sz at *
    by_cases hd0 : d = 0
    · have hgp : gp = sx := by rw [Hg.out, if_pos hd0, hg0 hd0]
      have hq1 : decide (0 < (d : Int)) = false := by rw [decide_eq_false_iff_not]; omega
      have hq2 : ¬ 0 < d := by omega
      have Ho2 := Lib.hid (own_below ho.out (show Below wr.heap.size wr ((wr.alloc (.cells #[.int .u64 sx, .int .u64 sy] 73)).alloc (.cells #[.int .u64 sx, .int .u64 sz] 24)) from Hal.out.alloc Hal.out.size _))
      have Hb2 := Lib.hid (Hb.out.trans ((show Below wr.heap.size wr ((wr.alloc (.cells #[.int .u64 sx, .int .u64 sy] 73)).alloc (.cells #[.int .u64 sx, .int .u64 sz] 24)) from Hal.out.alloc Hal.out.size _).mono Hb.out.size))
      rw [hgp] at Hst
      clear hal hgp hg0 hsz2 Hg g1 g2 l1 Hc' Hc hd0
      go_wp2_with fail
      refine (join_any w.heap.size _ (2 * d) (diffsTo l ap d) (some ⟨wr.heap.size + 1, 0, none⟩) 2 sx sz _ Ho2.out (rd_block (heap_at_new _ _ _ (by simp)) rfl rfl) (by omega) Hb2.out.size).mono ?_
      rintro e w4 ⟨⟨v', rfl, ho4⟩, hb4⟩
      have Ho4 := Lib.hid ho4
      have Hb4 := Lib.hid (Hb2.out.trans hb4); clear ho4 hb4
      go_wp2
      go_roundw
      case rel => exact ⟨d + 1, by omega, by go_num, Hb4.out, by rw [Hst.out]; exact Ho4.out⟩
      case measure => simp [intOf]; omega
    · have g2 := g2 (by omega)
      have hgp : gp = sx - py - 1 - ap := by rw [Hg.out, if_neg hd0]
      have hq1 : decide (0 < (d : Int)) = true := by rw [decide_eq_true_iff]; omega
      have hq2 : 0 < d := by omega
      have hsub : IntKind.i64.wrap ((d : Int) - 1) = ((d - 1 : Nat) : Int) := by rw [IntKind.wrap_i64]; omega
      have h01 : (0 : Int) ≤ ((d - 1 : Nat) : Int) := by omega
      have h03 : ((d - 1 : Nat) : Int) < (n : Int) := by omega
      have Hc1 := Lib.hid (Hc'.out (by omega))
      have hBt := Lib.hid (fun w => between_lt py sx w (by omega) l1.1)
      have hlt1 : decide (((sx - py - 1 : Nat) : Int) < (ap : Int)) = false := by rw [decide_eq_false_iff_not]; omega
      have hlt2 : decide (sx - py - 1 < ap) = false := by rw [decide_eq_false_iff_not]; omega
      have hsub2 : IntKind.u64.wrap (((sx - py - 1 : Nat) : Int) - (ap : Int)) = (gp : Int) := by rw [IntKind.wrap_u64, hgp]; omega
      have HXc := Lib.hid (fun w' (h : Below (wr.alloc (.cells #[.int .u64 sx, .int .u64 sy] 73)).heap.size (wr.alloc (.cells #[.int .u64 sx, .int .u64 sy] 73)) w') => And.intro (Hc1.out w' (Hal.out.trans (h.mono Hal.out.size))) (HX.out w' h))
      clear hal hgp hg0 hsz2 Hg g1 g2 l1 Hc' Hc Hc1 hd0
      generalize sx - py - 1 = bt at *
      generalize d - 1 = d1 at *
      have Hb1 := Lib.hid (Hb.out.trans (Hal.out.mono Hb.out.size))
      have Ho1 := Lib.hid (own_below ho.out Hal.out)
      clear ho HX Hal
      generalize hW : wr.alloc (.cells #[.int .u64 sx, .int .u64 sy] 73) = W at *
      obtain ⟨-, x1, x2⟩ := HXc.out _ (Below.refl _ _)
      go_wp2_with fail
      refine wp_region_below (by kernel_rfl) (by kernel_rfl) ?_
      repeat (go_big_quiet_step ((intro hw; first
       | rfl
       | (obtain ⟨⟨y1, y2⟩, y3, y4⟩ := HXc.out _ hw
          first
          | (go_at_call 135; refine (hBt.out _).mono ?_; rintro e w4 ⟨rfl, rfl⟩; exact ⟨rfl, hw⟩)
          | (go_simp
             first | rfl | exact ⟨rfl, hw⟩ | (trace_state; fail))))))
      refine wpQuiet_nil ?_
      intro w3 hb3
      obtain ⟨-, x3, x4⟩ := HXc.out _ hb3
      have hal3 : Below w3.heap.size w3 (w3.alloc (.cells #[.int .u64 gp, .int .u64 sz] 24)) := (Below.refl _ _).alloc (Nat.le_refl _) _
      have hb3w := Hb1.out.trans (hb3.mono Hb1.out.size)
      have Hb3 := Lib.hid (hb3w.trans (hal3.mono hb3w.size))
      have Ho3 := Lib.hid (own_below (own_below Ho1.out hb3) hal3)
      clear hb3 hal3 hb3w x1 x2 HXc Ho1 Hb1
      go_wp2_with fail
      refine (join_any w.heap.size _ (2 * d) (diffsTo l ap d) (some ⟨w3.heap.size, 0, none⟩) 2 gp sz _ Ho3.out (rd_block (heap_at_new _ _ _ rfl) rfl rfl) (by omega) Hb3.out.size).mono ?_
      rintro e w4 ⟨⟨v', rfl, ho4⟩, hb4⟩
      have Ho4 := Lib.hid ho4
      have Hb4 := Lib.hid (Hb3.out.trans hb4); clear ho4 hb4
      go_wp2
      go_roundw
      case rel => exact ⟨d + 1, by omega, by go_num, Hb4.out, by rw [Hst.out]; exact Ho4.out⟩
      case measure => simp [intOf]; omega
  · obtain rfl : d = n := by omega
    have Ho := Lib.hid ho.out
    rw [← Hall.out] at Ho
    go_wp2
    go_ret2
    exact ⟨⟨_, rfl, Ho.out⟩, Hb.out⟩
structure Grw (w w' : World) (v v' : Value) : Prop where
 g : w.grownBy w' v.ownBlock
 b : ∀ k, v'.ownBlock = some k → v.ownBlock = some k ∨ w.heap.size ≤ k
theorem Grw.refl (w : World) (v : Value) : Grw w w v v := ⟨World.grownBy.refl _ _, fun k h => .inl h⟩
theorem Grw.trans {w1 w2 w3 : World} {v1 v2 v3 : Value} (h : Grw w1 w2 v1 v2) (k : Grw w2 w3 v2 v3) : Grw w1 w3 v1 v3 := by
 refine ⟨⟨k.g.os.trans h.g.os, k.g.tape.trans h.g.tape, k.g.output.trans h.g.output, Nat.le_trans h.g.size k.g.size, fun i hi hn => ?_⟩, fun i hi => ?_⟩
 · rw [k.g.block i (Nat.lt_of_lt_of_le hi h.g.size) (fun e => ?_), h.g.block i hi hn]
   rcases h.b i e.symm with h' | h'
   · exact hn h'.symm
   · omega
 · rcases k.b i hi with h' | h'
   · exact h.b i h'
   · exact .inr (Nat.le_trans h.g.size h')
theorem Grw.below {w w1 w2 : World} {v v1 : Value} (h : Grw w w1 v v1) (hb : Below w1.heap.size w1 w2) : Grw w w2 v v1 :=
 ⟨⟨hb.os.trans h.g.os, hb.tape.trans h.g.tape, hb.output.trans h.g.output, Nat.le_trans h.g.size hb.size, fun i hi hn => (hb.block i (Nat.lt_of_lt_of_le hi h.g.size)).trans (h.g.block i hi hn)⟩, h.b⟩
theorem Grw.alloc {w w1 : World} {v v1 : Value} (h : Grw w w1 v v1) (o : Obj) : Grw w (w1.alloc o) v v1 := h.below ((Below.refl _ _).alloc (Nat.le_refl _) o)
theorem Grw.toBelow {w w' : World} {v v' : Value} {base : Nat} (h : Grw w w' v v') (hb : base ≤ w.heap.size) (hv : ∀ k, v.ownBlock = some k → base ≤ k) : Below base w w' := (Below.refl _ _).grown h.g hb hv
theorem Grw.row {w w' : World} {v v' : Value} (h : Grw w w' v v') {base sz n : Nat} {e : TypeId} {u : Value} {xs : List Value} (ho : w.ownsRow base e sz u n xs) (hn : ∀ k, u.ownBlock = some k → v.ownBlock ≠ some k) : w'.ownsRow base e sz u n xs :=
 own_row ho fun k hk => h.g.block k (ho.lt k hk).2 (fun e => hn k hk e.symm)
theorem run_append_byt_at {w : World} (base : Nat) (v : Value) (n : Nat) (xs : List Value) (hown : w.ownsRow base 5 1 v n xs) (p c q : Nat) (hc : w.cell? ⟨p, 0, none⟩ = some (.int .u8 (q : Int))) (hq : q < 256) (h1c : 1 ≤ c) (h2c : c ≤ 9223372036854775807) (hb : n + 1 ≤ 140737488355328) (hbase : base ≤ w.heap.size) :
 ∃ v' w', (Builtin.append_ #[103, 103] 103 #[v, .slice (some ⟨p, 0, none⟩) 1 c]).run Tryz.prog w = .ok v' w' ∧ w'.ownsRow base 5 1 v' (n + 1) (xs ++ u8s [q]) ∧ Grw w w' v v' := by
 have hB : Byts w (some ⟨p, 0, none⟩) 1 c [q] := by
  refine ⟨rfl, ?_, h1c, h2c, (by intro h; cases h), fun _ => ⟨p, 0, rfl, fun i hi => ?_⟩⟩
  · intro x hx
    simp at hx
    omega
  · obtain rfl : i = 0 := by omega
    exact hc
 rcases hown.2 with ⟨rfl, h0⟩ | ⟨g, cap, cur, rfl, hg, hrow, hnc, hcm, hcs, htake⟩
 · have hx : xs = [] := by
    have := hown.1
    rw [h0] at this
    exact List.length_eq_zero_iff.1 (by omega)
   subst h0 hx
   obtain ⟨v', w', h1, h2, h3⟩ := run_append_byts (w := w) w.heap.size (.slice none 0 0) 0 [] (World.ownsRow_nil _ _ _ _) (some ⟨p, 0, none⟩) 1 c [q] hB (by omega) (Nat.le_refl _)
   exact ⟨v', w', h1, own_mono h2 hbase, h3, fun k e => .inr (h2.lt _ e).1⟩
 · obtain ⟨i, hi, hz, hs, hby⟩ := info_parts Tryz.info_u8
   have hnews : ∀ j u, (u8s [q])[j]? = some u → w.cell? ((⟨p, 0, none⟩ : Addr).add j) = some u := hB.news
   have hone : ∀ u ∈ u8s [q], u.oneCell' = true := by intro u hu; simp [u8s] at hu; subst hu; rfl
   by_cases hf : n + 1 ≤ cap
   · obtain ⟨w', r1, r2, r3⟩ := run_append_fits (P := Tryz.prog) w base 103 103 5 i 1 Tryz.underlying103 hi hs g n cap _ hown ⟨p, 0, none⟩ 1 c (u8s [q]) rfl hnews hone hf
     exact ⟨_, w', r1, r2, r3, fun k e => .inl e⟩
   · obtain ⟨v', w', r1, r2, r3⟩ := run_append_arg_grows (P := Tryz.prog) w 103 103 5 i _ 1 1 Tryz.underlying103 hi hz hs hby rfl (by omega) ⟨g, 0, none⟩ n cap xs hown.1 (fun j u hu => hown.cells (g := g) rfl j u hu) ⟨p, 0, none⟩ 1 c (u8s [q]) rfl hnews (by omega) (by unfold maxLen; omega) (by omega)
     exact ⟨v', w', r1, own_mono r2 hbase, ⟨r3.os, r3.tape, r3.output, r3.size, fun k hk _ => r3.block k hk (by simp)⟩, fun k e => .inr (r2.lt _ e).1⟩
set_option maxHeartbeats 1000000 in
theorem vput_any (v : Value) (n base : Nat) (xs : List Value) (x : Nat) (w : World) (hx : x < 18446744073709551616) (hown : w.ownsRow base 5 1 v n xs) (hbase : base ≤ w.heap.size) (hn : n ≤ 140737488355000) :
 Calls Tryz.prog 95 #[v, .int .u64 x] w fun e w' => ∃ v', e = .returned v' ∧ w'.ownsRow base 5 1 v' (n + (vbytes x).length) (xs ++ u8s (vbytes x)) ∧ Grw w w' v v' := by
 have hlen := vbF_len_le 9 x
 have hpos := vbF_pos 9 x
 have Ho := Lib.hid hown; clear hown
 have Hx := Lib.hid hx; clear hx
 go_enter Tryz.func95, Tryz.ntmps95
 go_wp2_with fail
 refine (size_any x w Hx.out).mono ?_
 rintro e w' ⟨rfl, rfl⟩
 rw [vbytes_eq]
 generalize hL : (vbF 9 x).length = L at *
 have HL := Lib.hid hL; clear hL
 go_wp2_with fail
 go_loopw [0, 1, 8] (fun u y i wr => ∃ j m k : Nat, j + 1 ≤ L ∧ i = .int .i64 j ∧ y = .int .u64 m ∧ Hid (m < 18446744073709551616) ∧ Hid (Grw w wr v u) ∧ base ≤ wr.heap.size ∧ j + (vbF k m).length = L ∧
  Hid (∃ p : List Nat, p.length = j ∧ vbF 9 x = p ++ vbF k m ∧ wr.ownsRow base 5 1 u (n + j) (xs ++ u8s p))) (fun _ _ i _ => L - (intOf i).toNat)
 case atStart => exact ⟨0, x, 9, by omega, rfl, rfl, Hx.out, Grw.refl _ _, hbase, by rw [HL.out]; omega, [], rfl, rfl, by have := Ho.out; simpa [u8s] using this⟩
 case round =>
  obtain ⟨j, m, k, hj, rfl, rfl, hm, hb, hbs, hjl, hp⟩ := hrel
  by_cases hjL : j < L - 1
  · have hlt : decide ((j : Int) < (L : Int) - 1) = true := by rw [decide_eq_true_iff]; omega
    obtain ⟨k', rfl, h128, hcons⟩ := vbF_more (k := k) (x := m) (by omega)
    obtain ⟨p, hpl, hpx, hpo⟩ := hp.out
    have Hpo := Lib.hid hpo; clear hpo
    have Hcons := Lib.hid hcons; clear hcons
    have Hjl := Lib.hid hjl; clear hjl
    have Hpl := Lib.hid hpl; clear hpl
    have Hpx := Lib.hid hpx; clear hpx
    have hbit := vbF_bits m hm.out
    have hq256 : m % 128 + 128 < 256 := by omega
    generalize m % 128 + 128 = q at *
    obtain ⟨v', w1, hr, ho1, hg1⟩ := run_append_byt_at base _ (n + j) _ (Hpo.out.alloc (.cells #[.int .u8 (q : Int)] 5)) wr.heap.size 1 q (by rw [World.cell?_alloc_mark]; rfl) hq256 (Nat.le_refl _) (by omega) (by omega) (by simp only [World.size_alloc]; omega)
    have Ho1 := Lib.hid ho1; clear ho1
    have Hg := Lib.hid ((hb.out.alloc _).trans hg1)
    have hs1 : base ≤ w1.heap.size := by have := hg1.g.size; simp only [World.size_alloc] at this; omega
    clear hg1 Hpo hb
    go_wp2_with (at_builtin; refine wpList_append_hr _ _ 103 rfl rfl _ _ rfl rfl _ _ hr ?_)
    clear hr
    go_roundw
    case rel =>
     refine ⟨j + 1, m / 128, k', by omega, by go_num, by go_num, (by have := hm.out; show m / 128 < _; omega), Hg.out, hs1, ?_, p ++ [q], ?_, ?_, ?_⟩
     · have := Hjl.out; rw [Hcons.out] at this; simp at this; omega
     · have := Hpl.out; simp [this]
     · rw [Hpx.out, Hcons.out]; simp
     · have := Ho1.out
       rw [List.append_assoc, ← u8s_append] at this
       exact this
    case measure => simp [intOf]; omega
  · have hge : decide ((j : Int) < (L : Int) - 1) = false := by rw [decide_eq_false_iff_not]; omega
    obtain ⟨p, hpl, hpx, hpo⟩ := hp.out
    have Hpo := Lib.hid hpo; clear hpo
    have h1 : (vbF k m).length = 1 := by have := vbF_pos k m; omega
    have e1 := vbF_last h1
    have Hfin := Lib.hid (show vbytes x = p ++ [m % 256] from by rw [vbytes_eq, hpx, e1])
    have Hpl := Lib.hid hpl; clear hpl hpx h1 e1
    have Hjl := Lib.hid hjl; clear hjl
    have hq256 : m % 256 < 256 := by omega
    have hmq : ((m : Int) % 256) = ((m % 256 : Nat) : Int) := by omega
    generalize m % 256 = q at *
    obtain ⟨v', w1, hr, ho1, hg1⟩ := run_append_byt_at base _ (n + j) _ (Hpo.out.alloc (.cells #[.int .u8 (q : Int)] 5)) wr.heap.size 1 q (by rw [World.cell?_alloc_mark]; rfl) hq256 (Nat.le_refl _) (by omega) (by omega) (by simp only [World.size_alloc]; omega)
    have Ho1 := Lib.hid ho1; clear ho1
    have Hg := Lib.hid ((hb.out.alloc _).trans hg1)
    clear hg1 Hpo hb
    go_wp2_with (at_builtin; refine wpList_append_hr _ _ 103 rfl rfl _ _ rfl rfl _ _ hr ?_)
    go_ret
    refine ⟨v', rfl, ?_, Hg.out⟩
    have h2 := Ho1.out
    rw [List.append_assoc, ← u8s_append] at h2
    rw [Hfin.out]
    have h3 : n + (p ++ [q]).length = n + j + 1 := by have := Hpl.out; simp [this]; omega
    rw [h3]
    exact h2
theorem putG_any (base : Nat) (v : Value) (l : List Nat) (x : Nat) (w : World) (hx : x < 18446744073709551616) (ho : OwnB w base v l) (hbase : base ≤ w.heap.size) (hn : l.length ≤ 1000000000000) :
 Calls Tryz.prog 95 #[v, .int .u64 x] w fun e w' => ∃ v', e = .returned v' ∧ OwnB w' base v' (l ++ [x]) ∧ Grw w w' v v' := by
 have h1 := joinB_len l
 refine (vput_any v _ base _ x w hx ho hbase (by omega)).mono ?_
 rintro e w' ⟨v', rfl, h2, h3⟩
 refine ⟨v', rfl, ?_, h3⟩
 unfold OwnB
 rw [joinB_app, joinB_one, List.length_append, u8s_append]
 exact h2
set_option maxHeartbeats 1000000 in
theorem cloneIv_any (a : Option Addr) (n c : Nat) (l : List Iv) (w : World) (hI : Ivs w a n c l) (hn : n ≤ 100000) :
 Calls Tryz.prog 82 #[.slice a n c] w fun e w' => OwnIv w.heap.size l e w' ∧ Below w.heap.size w w' := by
 have HI := Lib.hid hI
 have hlen := hI.len
 have hnil := hI.nilc
 have hroom := hI.room
 clear hI
 cases a with
 | none =>
  have hc := hnil rfl
  have hl : l = [] := by apply List.eq_nil_of_length_eq_zero; omega
  subst hl
  have hq : ∀ (w : World) (n c : Nat), (binOp .eql 28 (.slice none n c) (.slice none 0 0)).run Tryz.prog w = .ok (.bool true) w := fun (w : World) (n c : Nat) => Lib.run_eql_slice_nil (P := Tryz.prog) w 28 73 none n c 0 0 Tryz.underlying28
  clear hnil HI hc hlen hroom
  go_enter Tryz.func82, Tryz.ntmps82
  go_wp2
  go_ret
  exact ⟨⟨_, rfl, World.ownsRow_nil _ _ _ _⟩, Below.refl _ _⟩
 | some p =>
  have hal : Below w.heap.size w (w.alloc (.cells #[] 73)) := (Below.refl _ _).alloc (Nat.le_refl _) _
  have Hal := Lib.hid hal
  have Ho := Lib.hid (own_empty (w := w.alloc (.cells #[] 73)) (base := w.heap.size) (e := 73) (sz := 2) (row_new rfl) (Nat.le_refl _))
  have Hr := Lib.hid ((HI.out.below hal).rd)
  have hq : ∀ (w : World) (n c : Nat), (binOp .eql 28 (.slice (some p) n c) (.slice none 0 0)).run Tryz.prog w = .ok (.bool false) w := fun (w : World) (n c : Nat) => Lib.run_eql_slice_nil (P := Tryz.prog) w 28 73 (some p) n c 0 0 Tryz.underlying28
  clear hal hnil HI
  go_enter Tryz.func82, Tryz.ntmps82
  go_wp2_with (at_builtin; refine wpList_append_ivs rfl _ _ rfl rfl w.heap.size _ 0 [] rfl Ho.out _ n c l rfl Hr.out (by omega) (by simp) ?_; intro v' w8 ho8 hg8)
  have Hb8 := Lib.hid (Below.grown Hal.out hg8 (by simp) (fun k hk => by cases hk; exact Nat.le_refl _))
  go_ret
  exact ⟨⟨v', rfl, by rw [hlen]; simpa using ho8⟩, Hb8.out⟩
def HolesD (w : World) (B d : Nat) (v : Vec) (ss : List Value) : Prop := ss.length = v.length ∧ ∀ i, i < v.length → ∃ a n c, ss[i]? = some (.slice a n c) ∧ IvsT w (if i < d then 0 else B) a n c (nthE v i).2.2
theorem HolesD.steady {w w' : World} {B d : Nat} {P : TypeId → Prop} {v : Vec} {ss : List Value} (h : HolesD w B d v ss) (hs : Steady 0 P w w') (hs2 : Steady B P w w') (hP : P 73) : HolesD w' B d v ss :=
 ⟨h.1, fun i hi => let ⟨a, n, c, h1, h2⟩ := h.2 i hi; ⟨a, n, c, h1, by
  by_cases e : i < d
  · rw [if_pos e] at h2 ⊢; exact h2.steady hs hP
  · rw [if_neg e] at h2 ⊢; exact h2.steady hs2 hP⟩⟩
end
end Go.Proofs.YtkkdlgcfcbaibaaGreatDoor
