/-
  Walk: kenningref04.Text.
-/
import Derived.Test.YtbiohohclnaocaaGreatDoorRgRefTxt
import Derived.Test.YtbiohohclnaocaaGreatDoorRgText
namespace Go.Proofs.YtbiohohclnaocaaGreatDoor
open Go.RowKit
set_option linter.unusedVariables false

theorem join_snoc : ∀ (L : List Txt) (t : Txt), Lib.join (L ++ [t]) [44] = if L = [] then t else Lib.join L [44] ++ [44] ++ t
  | [], t => by simp [Lib.join_one]
  | [u], t => by
    have e : Lib.join (u :: t :: []) [44] = u ++ [44] ++ Lib.join [t] [44] := by simp [Lib.join]
    rw [List.singleton_append, e, Lib.join_one, if_neg (by simp), Lib.join_one]
  | u :: v :: L, t => by
    have e : Lib.join (u :: v :: (L ++ [t])) [44] = u ++ [44] ++ Lib.join (v :: (L ++ [t])) [44] := by simp [Lib.join]
    have e2 : Lib.join (u :: v :: L) [44] = u ++ [44] ++ Lib.join (v :: L) [44] := by simp [Lib.join]
    have ih := join_snoc (v :: L) t
    rw [List.cons_append, List.cons_append, e, show v :: (L ++ [t]) = (v :: L) ++ [t] from rfl, ih, if_neg (by simp), if_neg (by simp), e2]
    simp only [List.append_assoc]

theorem pre_step (l : List Iv) (k : Nat) (h : k < l.length) : Lib.join ((l.take (k + 1)).map ivT) [44] = (if k = 0 then [] else Lib.join ((l.take k).map ivT) [44] ++ [44]) ++ ivT (nthI l k) := by
  rw [List.take_succ_eq_append_getElem h, List.map_append, List.map_singleton, join_snoc, nthI_get h]
  by_cases hk : k = 0
  · subst hk; simp
  · rw [if_neg hk, if_neg]
    intro e
    have := congrArg List.length e
    rw [List.length_map, List.length_take, List.length_nil] at this
    omega

theorem add_lists {P : Program} (x y : List UInt8) (h : x.length + y.length ≤ 8388608) (W : World) : (Op.stringOp .add ⟨x.toArray⟩ ⟨y.toArray⟩).run P W = .ok (.string ⟨(x ++ y).toArray⟩) W := run_string_add_lists W x y (by omega) (by omega)

set_option maxRecDepth 20000 in
set_option maxHeartbeats 4000000 in
theorem refText_any (a : Option Addr) (n cap : Nat) (l : List Iv) (w : World) (hI : Ivs w a n cap l) (hn : n ≤ 10000) :
    Calls Tryz.prog 17 #[.slice a n cap] w fun e w' => e = .returned (strV (textL l)) ∧ Below w.heap.size w w' := by
  have HI := Lib.hid hI
  have Hl := Lib.hid hI.len
  clear hI
  by_cases hn0 : n = 0
  · subst hn0
    obtain rfl : l = [] := List.eq_nil_of_length_eq_zero Hl.out
    go_enter Tryz.func17, Tryz.ntmps17
    go_wp2
    go_ret
    exact ⟨rfl, Below.refl _ _⟩
  · have hne : ((n : Int) == 0) = false := by rw [beq_eq_false_iff_ne]; omega
    go_enter Tryz.func17, Tryz.ntmps17
    go_wp2
    clear hne
    go_loopw [3, 4] (fun s i wr => ∃ k : Nat, k ≤ n ∧ i = .int .i64 k ∧ s = strV (Lib.join ((l.take k).map ivT) [44]) ∧ Below w.heap.size w wr) (fun _ i _ => n - (intOf i).toNat)
    case atStart => exact ⟨0, by omega, rfl, rfl, Below.refl _ _⟩
    case round =>
      obtain ⟨k, hk, rfl, rfl, hb⟩ := hrel
      have Hb := Lib.hid hb; clear hb
      by_cases hkn : k < n
      · obtain ⟨bb, oo, rfl, hcell⟩ := HI.out.cells (by omega)
        obtain ⟨hc1, hc2⟩ := hcell k hkn
        clear hcell
        have hkl : k < l.length := by rw [Hl.out]; exact hkn
        have Hlt := Lib.hid (HI.out.lt (nthI l k) (nthI_mem hkl))
        have Hst := Lib.hid (pre_step l k hkl)
        have Hpl := Lib.hid (show (Lib.join ((l.take k).map ivT) [44]).length ≤ 420000 from by
          have h := join_len (L := (l.take k).map ivT) (fun t ht => by
            obtain ⟨s, hs, rfl⟩ := List.mem_map.1 ht
            exact ivT_len (HI.out.lt s (List.mem_of_mem_take hs)))
          rw [List.length_map, List.length_take] at h
          omega)
        have HC1 := Lib.hid (fun W (h : Below w.heap.size w W) => (h.cell (p := ⟨bb, oo + k * 2, none⟩) (cell_lt hc1)).trans hc1)
        have HC2 := Lib.hid (fun W (h : Below w.heap.size w W) => (h.cell (p := ⟨bb, oo + k * 2 + 1, none⟩) (cell_lt hc2)).trans hc2)
        clear hc1 hc2 hkl
        have Hsp0 := Lib.hid (show k = 0 → Lib.join ((l.take k).map ivT) [44] = [] from by rintro rfl; rfl)
        generalize Lib.join ((l.take k).map ivT) [44] = sp at *
        generalize nthI l k = s at *
        obtain ⟨x, y⟩ := s
        dsimp only at HC1 HC2 Hlt
        have hl1 := dec_len Hlt.out.1
        have hl2 := dec_len Hlt.out.2
        have hT1 := Lib.hid (fun W => refText2_any x Hlt.out.1 W)
        have hT2 := Lib.hid (fun W => refText2_any y Hlt.out.2 W)
        have c1 := HC1.out _ Hb.out
        have hp := Hpl.out
        obtain ⟨cur, hcur⟩ : ∃ cur, cur = (if k = 0 then [] else sp ++ [44]) := ⟨_, rfl⟩
        have Hcur := Lib.hid hcur
        clear hcur
        have h01 : (k : Int) < (n : Int) := by omega
        by_cases hk0 : k = 0
        · subst hk0
          obtain rfl : sp = [] := Hsp0.out rfl
          obtain rfl : cur = [] := Hcur.out
          rw [show ((0 : Nat) : Int) = 0 from rfl]
          rw [Nat.zero_mul, Nat.add_zero] at c1
          go_wp2_with fail
          refine (hT1.out _).mono ?_
          rintro e w1 ⟨rfl, hb1⟩
          have Hb1 := Lib.hid (Hb.out.trans (hb1.mono Hb.out.size)); clear hb1 c1
          have c1 := HC1.out _ Hb1.out
          have c2 := HC2.out _ Hb1.out
          rw [Nat.zero_mul, Nat.add_zero] at c1 c2
          by_cases hxy : y = x
          · subst hxy
            have Hiv := Lib.hid (show ivT (y, y) = dec y from if_pos rfl)
            go_wp2_with fail
            go_region
            all_goals
              clear c1 c2
              go_wp2
              go_roundw
              case rel => exact ⟨0 + 1, by omega, by go_num, by rw [Hst.out, Hiv.out]; first | rfl | (rw [← Hcur.out, Hc.out]; apply congrArg Value.string; apply ByteArray.ext; simp; done) | (apply congrArg Value.string; apply ByteArray.ext; simp; done), by first | exact Hb1.out | exact Hb1.out.drew⟩
              case measure => simp [intOf]; omega
          · have Hiv := Lib.hid (show ivT (x, y) = dec x ++ 45 :: dec y from if_neg hxy)
            have hne : ((y : Int) != (x : Int)) = true := by rw [bne_iff_ne]; omega
            have hne2 : (y != x) = true := by rw [bne_iff_ne]; exact hxy
            have hne3 : decide (y = x) = false := decide_eq_false hxy
            have hne4 : (y == x) = false := by rw [beq_eq_false_iff_ne]; exact hxy
            go_wp2_with fail
            go_region
            all_goals
              have c2' := c2
              go_wp2_with fail
              refine (hT2.out _).mono ?_
              rintro e w2 ⟨rfl, hb2⟩
              have Hb2 : Below w.heap.size w w2 := by first | exact Hb1.out.trans (hb2.mono Hb1.out.size) | exact Hb1.out.drew.trans (hb2.mono Hb1.out.size)
              clear hb2 c1 c2 c2'
              go_wp2
              go_roundw
              case rel => exact ⟨0 + 1, by omega, by go_num, by rw [Hst.out, Hiv.out]; first | (rw [← Hcur.out, Hc.out]; apply congrArg Value.string; apply ByteArray.ext; simp; done) | (apply congrArg Value.string; apply ByteArray.ext; simp; done), Hb2⟩
              case measure => simp [intOf]; omega
        · have hgt : decide (0 < (k : Int)) = true := by rw [decide_eq_true_iff]; omega
          have Hc := Lib.hid (show cur = sp ++ [44] from Hcur.out.trans (if_neg hk0))
          go_wp2_with fail
          refine (hT1.out _).mono ?_
          rintro e w1 ⟨rfl, hb1⟩
          have Hb1 := Lib.hid (Hb.out.trans (hb1.mono Hb.out.size)); clear hb1 c1
          have c1 := HC1.out _ Hb1.out
          have c2 := HC2.out _ Hb1.out
          by_cases hxy : y = x
          · subst hxy
            have Hiv := Lib.hid (show ivT (y, y) = dec y from if_pos rfl)
            go_wp2_with fail
            go_region
            all_goals
              clear c1 c2
              go_wp2
              go_roundw
              case rel => exact ⟨k + 1, by omega, by go_num, by rw [Hst.out, Hiv.out]; first | rfl | (rw [← Hcur.out, Hc.out]; apply congrArg Value.string; apply ByteArray.ext; simp; done) | (apply congrArg Value.string; apply ByteArray.ext; simp; done), by first | exact Hb1.out | exact Hb1.out.drew⟩
              case measure => simp [intOf]; omega
          · have Hiv := Lib.hid (show ivT (x, y) = dec x ++ 45 :: dec y from if_neg hxy)
            have hne : ((y : Int) != (x : Int)) = true := by rw [bne_iff_ne]; omega
            have hne2 : (y != x) = true := by rw [bne_iff_ne]; exact hxy
            have hne3 : decide (y = x) = false := decide_eq_false hxy
            have hne4 : (y == x) = false := by rw [beq_eq_false_iff_ne]; exact hxy
            go_wp2_with fail
            go_region
            all_goals
              have c2' := c2
              go_wp2_with fail
              refine (hT2.out _).mono ?_
              rintro e w2 ⟨rfl, hb2⟩
              have Hb2 : Below w.heap.size w w2 := by first | exact Hb1.out.trans (hb2.mono Hb1.out.size) | exact Hb1.out.drew.trans (hb2.mono Hb1.out.size)
              clear hb2 c1 c2 c2'
              go_wp2
              go_roundw
              case rel => exact ⟨k + 1, by omega, by go_num, by rw [Hst.out, Hiv.out]; first | (rw [← Hcur.out, Hc.out]; apply congrArg Value.string; apply ByteArray.ext; simp; done) | (apply congrArg Value.string; apply ByteArray.ext; simp; done), Hb2⟩
              case measure => simp [intOf]; omega
      · obtain rfl : k = n := by omega
        have Hres := Lib.hid (show textL l = Lib.join ((l.take k).map ivT) [44] from by
          rw [textL, if_neg (by intro h; rw [h] at Hl; exact hn0 Hl.out.symm), List.take_of_length_le (by rw [Hl.out]; exact Nat.le_refl _)])
        go_wp2
        go_ret
        exact ⟨by rw [Hres.out]; rfl, Hb.out⟩

end Go.Proofs.YtbiohohclnaocaaGreatDoor
