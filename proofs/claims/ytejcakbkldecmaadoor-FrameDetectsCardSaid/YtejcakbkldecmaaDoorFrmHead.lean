/-
  Walk: frame.Header.
-/
import Derived.Test.YtejcakbkldecmaaDoorFrmRef
import Derived.Laws.CopyOwn
import Derived.Deep.RegionLaw
import Derived.Test.YtejcakbkldecmaaDoorFrmEq
namespace Go.Proofs.YtejcakbkldecmaaDoor
open Go.RowKit
set_option linter.unusedVariables false

theorem splice4 (L : List Nat) : splice [.int .u8 0, .int .u8 0, .int .u8 0, .int .u8 0] 0 (u8s (L.take 4)) = [.int .u8 ((nth L 0 : Nat) : Int), .int .u8 ((nth L 1 : Nat) : Int), .int .u8 ((nth L 2 : Nat) : Int), .int .u8 ((nth L 3 : Nat) : Int)] := by
  match L with
  | [] => rfl
  | [a] => rfl
  | [a, b] => rfl
  | [a, b, c] => rfl
  | a :: b :: c :: d :: r => rfl

set_option maxRecDepth 100000 in
set_option maxHeartbeats 4000000 in
theorem header_some (a : Option Addr) (n cap p : Nat) (most : Int) (l : List Nat) (w : World) (hD : Door w) (hB : Byts w a n cap l) (hp : p < n) (hn : n ≤ 100000) (hm0 : -9223372036854775808 ≤ most) (hm1 : most ≤ 9223372036854775807) :
    Calls Tryd.prog 12 #[.slice a n cap, .int .i64 p, .int .i64 most] w fun e w' =>
      e = .returned (.tuple #[.int .i64 ((headRes l p most).1 : Nat), .int .i64 ((headRes l p most).2.1 : Nat), errVal (headRes l p most).2.2]) ∧ Below w.heap.size w w' := by
  have HB := Lib.hid hB
  have HD := Lib.hid hD; clear hD
  have Hm := Lib.hid (And.intro hm0 hm1); clear hm0 hm1
  obtain ⟨hl, hlt, hnc, hcm, hnil, hc⟩ := hB; clear hnil hcm
  have Hl := Lib.hid hl; clear hl
  have Hlt := Lib.hid hlt; clear hlt
  obtain ⟨b, o, rfl, hcell⟩ := hc (by omega)
  have Hcell := Lib.hid hcell; clear hcell hc
  have hpc : ¬ cap = p := by omega
  have hple : p ≤ n := by omega
  have h0p : (0 : Int) ≤ (p : Int) := by omega
  have HBs := Lib.hid (fun (w' : World) (hb : Below w.heap.size w w') => show ∀ j u, (u8s ((l.drop p).take 4))[j]? = some u → w'.cell? ((⟨b, o + p, none⟩ : Addr).add j) = some u from by
    intro j u hu
    have hj : j < ((l.drop p).take 4).length := by
      rcases Nat.lt_or_ge j ((l.drop p).take 4).length with h' | h'
      · exact h'
      · rw [List.getElem?_eq_none (by rw [u8s_length]; exact h')] at hu; cases hu
    rw [u8s_get _ j hj] at hu
    cases hu
    rw [List.length_take, List.length_drop, Hl.out] at hj
    rw [add_at, hb.cell (p := ⟨b, o + p + j, none⟩) (by
      have := cell_lt (Hcell.out p hp); exact this), Nat.add_assoc, Hcell.out (p + j) (by omega)]
    have : nth ((l.drop p).take 4) j = nth l (p + j) := by
      have h4 : j < 4 := by omega
      simp [nth, h4]
    rw [this])
  have Hlen := Lib.hid (show (u8s ((l.drop p).take 4)).length = Nat.min (n - p) 4 from by rw [u8s_length, List.length_take, List.length_drop, Hl.out, Nat.min_comm])
  have Hone := Lib.hid (show ∀ v ∈ u8s ((l.drop p).take 4), v.oneCell' = true from by intro v hv; unfold u8s at hv; rw [List.mem_map] at hv; obtain ⟨x, _, rfl⟩ := hv; rfl)
  have Hb0 := Lib.hid ((Below.refl w.heap.size w).alloc (Nat.le_refl _) (.cells #[.int .u8 0, .int .u8 0, .int .u8 0, .int .u8 0] 45))
  go_enter Tryd.func12, Tryd.ntmps12
  go_wp2_with fail
  go_region_law (refine step_copy_splice rfl (.tmp 20) (.tmp 23) 22 22 rfl 5 Tryd.underlying22 (by kernel_rfl) (some ⟨w.heap.size, 0, none⟩) (some ⟨b, o + p, none⟩) 4 4 (n - p) (cap - p) rfl rfl w.heap.size 0 [.int .u8 0, .int .u8 0, .int .u8 0, .int .u8 0] 45 (heap_alloc_new _ _) (u8s ((l.drop p).take 4)) Hlen.out (fun _ => ⟨rfl, _, rfl, HBs.out _ Hb0.out.drew⟩) (by rw [Hlen.out, Nat.zero_add]; exact Nat.min_le_right _ _) Hone.out w.heap.size w Hb0.out.drew (Nat.le_refl _) ?_; intro w4 hg4 hb4)
  rw [splice4, nth_drop, nth_drop, nth_drop, nth_drop, Nat.add_zero] at hg4
  rw [Hlen.out]
  have Hg4 := Lib.hid hg4.out
  clear hg4 Hone HBs Hlen
  have hmin : ((Nat.min (n - p) 4 : Nat) : Int) = ((min (n - p) 4 : Nat) : Int) := rfl
  go_wp2_with fail
  refine (magic_any _).mono ?_
  rintro e w5 ⟨rfl, hb5⟩
  have hgl4 : w.heap.size < w4.heap.size := (Array.getElem?_eq_some_iff.1 Hg4.out).1
  have hgl : w.heap.size < w5.heap.size := Nat.lt_of_lt_of_le hgl4 hb5.size
  have hg5 := (hb5.block w.heap.size hgl4).trans Hg4.out
  have c0 := cell_of_row w5 w.heap.size 0 _ _ _ hg5
  have c1 := cell_of_row w5 w.heap.size 1 _ _ _ hg5
  have c2 := cell_of_row w5 w.heap.size 2 _ _ _ hg5
  have c3 := cell_of_row w5 w.heap.size 3 _ _ _ hg5
  simp only [List.getElem?_toArray, List.getElem?_cons_zero, List.getElem?_cons_succ] at c0 c1 c2 c3
  have hb := hb4.trans (hb5.mono hb4.size)
  clear hg5 hb4 hb5 Hg4 hgl4
  generalize hd0 : nth l p = d0 at *
  generalize hd1 : nth l (p + 1) = d1 at *
  generalize hd2 : nth l (p + 2) = d2 at *
  generalize hd3 : nth l (p + 3) = d3 at *
  have Hd0 := Lib.hid hd0; clear hd0
  have Hd1 := Lib.hid hd1; clear hd1
  have Hd2 := Lib.hid hd2; clear hd2
  have Hd3 := Lib.hid hd3; clear hd3
  generalize hM : (min (n - p) 4) = m4 at *
  have HM := Lib.hid hM; clear hM hmin
  have he4 := eq_arr4
  have hm4 : p + m4 ≤ n := by have := HM.out; omega
  have hm44 : m4 ≤ 4 := by have := HM.out; omega
  by_cases hE : d0 = 75 ∧ d1 = 78 ∧ d2 = 87 ∧ d3 = 76
  · obtain ⟨rfl, rfl, rfl, rfl⟩ := hE
    have hn4 : p + 4 ≤ n := by
      by_cases h : p + 3 < n
      · omega
      · exfalso
        have h3 := Hd3.out
        unfold nth at h3
        rw [List.getD_eq_getElem?_getD, List.getElem?_eq_none (by rw [Hl.out]; omega)] at h3
        exact absurd h3 (by decide)
    have Hok := Lib.hid (show ∀ j, j < 4 → headAt l p j = none from by
      intro j hj
      refine headAt_ok (by rw [Hl.out]; omega) ?_
      obtain rfl | rfl | rfl | rfl : j = 0 ∨ j = 1 ∨ j = 2 ∨ j = 3 := by omega
      · exact Hd0.out
      · exact Hd1.out
      · exact Hd2.out
      · exact Hd3.out)
    clear he4
    have he5 := fun w => eq_arr4 75 78 87 76 75 78 87 76 w
    have Hb6 := Lib.hid (hb.alloc hb.size (.cells #[.int .u8 75, .int .u8 78, .int .u8 87, .int .u8 76] 45))
    have hrest : ((n : Int) - ((p : Int) + 4)) = ((n - (p + 4) : Nat) : Int) := by omega
    by_cases h4 : p + 4 = n
    · have Hbad := Lib.hid (headRes_bad (most := most) (headBad_at (show 4 < 5 by omega) Hok.out (headAt_short (by rw [Hl.out]; omega))))
      have t4 : ((n : Int) - ((p : Int) + 4) == 0) = true := by rw [beq_iff_eq]; omega
      clear hrest h4
      go_wp2_with fail
      refine (new_any 5 _ _).mono ?_
      rintro e w' ⟨rfl, rfl⟩
      go_wp2_with fail
      go_ret3
      refine ⟨?_, Hb6.out⟩
      rw [Hbad.out]
      rfl
    · have t4 : ((n : Int) - ((p : Int) + 4) == 0) = false := by rw [beq_eq_false_iff_ne]; omega
      clear hrest
      have hp4 : p + 4 < n := by omega
      have hc : (w5.alloc (.cells #[.int .u8 75, .int .u8 78, .int .u8 87, .int .u8 76] 45)).cell? ⟨b, o + (p + 4), none⟩ = some (.int .u8 ((nth l (p + 4) : Nat) : Int)) := by
        rw [Hb6.out.cell (p := ⟨b, o + (p + 4), none⟩) (by have := cell_lt (Hcell.out p hp); exact this)]
        exact Hcell.out (p + 4) hp4
      by_cases hv : nth l (p + 4) = 1
      · have hnone := headBad_none (l := l) (p := p) (by
          intro j hj
          by_cases h : j < 4
          · exact Hok.out j h
          · obtain rfl : j = 4 := by omega
            exact headAt_ok (by rw [Hl.out]; exact hp4) hv)
        rw [hv] at hc
        have HR := Lib.hid (readRes_scan l p most hnone _ _ _ rfl)
        have hst := scan_st (l.drop (p + 5)) 0 0
        have hxl := scan_lt (l.drop (p + 5)) 0 0 (by omega)
        have hjl := scan_len (l.drop (p + 5)) 0 0
        rw [List.length_drop, Hl.out] at hjl
        have Hrd := Lib.hid (show readRes l (p + 5) = (match scan (l.drop (p + 5)) 0 0 with | (1, x, j) => (x, p + 5 + j, none) | (2, _, _) => (0, 0, some (6, some ((p + 5 : Nat) : Int))) | _ => (0, 0, some (5, some ((p + 5 : Nat) : Int)))) from rfl)
        have Hread := Lib.hid (read_any (some ⟨b, o, none⟩) n cap (p + 5) l _ (HB.out.below Hb6.out) (by omega))
        have HDx := Lib.hid (HD.out.below (Nat.le_refl _) Hb6.out)
        generalize scan (l.drop (p + 5)) 0 0 = r at *
        obtain ⟨st, x, j⟩ := r
        have hst' : st = 0 ∨ st = 1 ∨ st = 2 := hst
        have hjl' : j ≤ 0 + (n - (p + 5)) := hjl
        have Hxl := Lib.hid (show x < 18446744073709551616 from hxl)
        clear hst hjl hxl hnone hv
        go_wp2_with fail
        refine Hread.out.mono ?_
        rintro e wZ ⟨rfl, hbZ⟩
        have HbZ := Lib.hid (Hb6.out.trans (hbZ.mono Hb6.out.size))
        have HDz := Lib.hid (HDx.out.below (Nat.le_refl _) hbZ)
        clear hbZ hc c0 c1 c2 c3 hgl hb Hread
        rcases hst' with rfl | rfl | rfl
        · rw [show readRes l (p + 5) = (0, 0, some (5, some ((p + 5 : Nat) : Int))) from Hrd.out]
          have Hbad := Lib.hid (show headRes l p most = (0, 0, some (5, some (p : Int))) from HR.out)
          simp only [errVal]
          go_wp2_with fail
          refine (code_any (some (5, some ((p + 5 : Nat) : Int))) _ HDz.out).mono ?_
          rintro e wy ⟨rfl, hby⟩
          have Hby := Lib.hid (HbZ.out.trans (hby.mono HbZ.out.size)); clear hby
          simp only [errCode]
          go_wp2_with fail
          refine (new_any 5 _ _).mono ?_
          rintro e w' ⟨rfl, rfl⟩
          go_wp2_with fail
          go_ret3
          refine ⟨?_, Hby.out⟩
          rw [Hbad.out]
          rfl
        · rw [show readRes l (p + 5) = (x, p + 5 + j, none) from Hrd.out]
          simp only [errVal]
          by_cases hneg : most < 0
          · have hmax : max most 0 = 0 := by omega
            have Hmax := Lib.hid hmax; clear hmax
            by_cases hlim : 0 < x
            · have Hbad := Lib.hid (show headRes l p most = (0, 0, some (7, some ((p + 5 : Nat) : Int))) from by rw [HR.out]; exact if_pos (by rw [Hmax.out]; omega))
              go_wp2_with fail
              refine (new_any 7 _ _).mono ?_
              rintro e w' ⟨rfl, rfl⟩
              go_wp2_with fail
              go_ret3
              refine ⟨?_, HbZ.out⟩
              rw [Hbad.out]
              rfl
            · obtain rfl : x = 0 := by omega
              have Hgood := Lib.hid (show headRes l p most = (p + 5 + j, 0, none) from by rw [HR.out]; exact if_neg (by rw [Hmax.out]; omega))
              go_wp2_with fail
              go_ret3
              refine ⟨?_, HbZ.out⟩
              rw [Hgood.out]
              rfl
          · obtain ⟨m, rfl⟩ := Int.eq_ofNat_of_zero_le (show 0 ≤ most by omega)
            have hm63 : m < 9223372036854775808 := by have := Hm.out.2; omega
            have hmax : max (m : Int) 0 = (m : Int) := by omega
            have Hmax := Lib.hid hmax; clear hmax
            by_cases hlim : m < x
            · have Hbad := Lib.hid (show headRes l p m = (0, 0, some (7, some ((p + 5 : Nat) : Int))) from by rw [HR.out]; exact if_pos (by rw [Hmax.out]; omega))
              go_wp2_with fail
              refine (new_any 7 _ _).mono ?_
              rintro e w' ⟨rfl, rfl⟩
              go_wp2_with fail
              go_ret3
              refine ⟨?_, HbZ.out⟩
              rw [Hbad.out]
              rfl
            · have Hgood := Lib.hid (show headRes l p m = (p + 5 + j, x, none) from by rw [HR.out]; exact if_neg (by rw [Hmax.out]; omega))
              have hx63 : x < 9223372036854775808 := by omega
              go_wp2_with fail
              go_ret3
              refine ⟨?_, HbZ.out⟩
              rw [Hgood.out]
              rfl
        · rw [show readRes l (p + 5) = (0, 0, some (6, some ((p + 5 : Nat) : Int))) from Hrd.out]
          have Hbad := Lib.hid (show headRes l p most = (0, 0, some (6, some ((p + 5 : Nat) : Int))) from HR.out)
          simp only [errVal]
          go_wp2_with fail
          refine (code_any (some (6, some ((p + 5 : Nat) : Int))) _ HDz.out).mono ?_
          rintro e wy ⟨rfl, hby⟩
          have Hby := Lib.hid (HbZ.out.trans (hby.mono HbZ.out.size)); clear hby
          simp only [errCode]
          go_wp2_with fail
          refine (new_any 6 _ _).mono ?_
          rintro e w' ⟨rfl, rfl⟩
          go_wp2_with fail
          go_ret3
          refine ⟨?_, Hby.out⟩
          rw [Hbad.out]
          rfl
      · have Hbad := Lib.hid (headRes_bad (most := most) (headBad_at (show 4 < 5 by omega) Hok.out (headAt_bad (by rw [Hl.out]; exact hp4) (show nth l (p + 4) ≠ nth startL 4 from hv))))
        have hne : (((nth l (p + 4) : Nat) : Int) != 1) = true := by rw [bne_iff_ne]; omega
        generalize nth l (p + 4) = d at *
        clear hv
        go_wp2_with fail
        refine (new_any 13 _ _).mono ?_
        rintro e w' ⟨rfl, rfl⟩
        go_wp2_with fail
        go_ret3
        refine ⟨?_, Hb6.out⟩
        rw [Hbad.out]
        rfl
  · have hN : ((!((d0 : Int) == 75)) || ((!((d1 : Int) == 78)) || ((!((d2 : Int) == 87)) || (!((d3 : Int) == 76))))) = true := by
      simp only [Bool.or_eq_true, Bool.not_eq_true', beq_eq_false_iff_ne]
      omega
    have HE := Lib.hid hE; clear hE
    have hsm : (p : Int) ≤ (p : Int) + (m4 : Int) := by omega
    go_wp2_with fail
    have Hb6 := Lib.hid (hb.alloc hb.size (.cells #[.int .u8 75, .int .u8 78, .int .u8 87, .int .u8 76] 45))
    have Hmg := Lib.hid (fun (k : Nat) (hk : k < 4) => show (w5.alloc (.cells #[.int .u8 75, .int .u8 78, .int .u8 87, .int .u8 76] 45)).cell? ⟨w5.heap.size, k, none⟩ = some (.int .u8 ((nth startL k : Nat) : Int)) from by
      rw [World.cell?_alloc_new]
      obtain rfl | rfl | rfl | rfl : k = 0 ∨ k = 1 ∨ k = 2 ∨ k = 3 := by omega
      all_goals rfl)
    clear c0 c1 c2 c3 hgl hb he4 hN
    generalize w5.alloc (.cells #[.int .u8 75, .int .u8 78, .int .u8 87, .int .u8 76] 45) = w6 at *
    generalize w5.heap.size = gm at *
    go_loop [12, 13, 36] (fun _ _ i => ∃ k : Nat, k ≤ m4 ∧ i = .int .i64 k ∧ Hid (∀ j, j < k → headAt l p j = none)) (fun _ _ i => m4 - (intOf i).toNat)
    case atStart => exact ⟨0, by omega, rfl, fun j h => by omega⟩
    case round =>
      obtain ⟨k, hk, rfl, hH⟩ := hrel
      by_cases hkm : k < m4
      · have hc : w6.cell? ⟨b, o + p + k, none⟩ = some (.int .u8 ((nth l (p + k) : Nat) : Int)) := by
          rw [Hb6.out.cell (p := ⟨b, o + p + k, none⟩) (by have := cell_lt (Hcell.out p hp); exact this), Nat.add_assoc]
          exact Hcell.out (p + k) (by omega)
        have hm := Hmg.out k (by omega)
        by_cases he : nth l (p + k) = nth startL k
        · have Hnext := Lib.hid (show ∀ j, j < k + 1 → headAt l p j = none from fun j hj => by
            by_cases hjk : j < k
            · exact hH.out j hjk
            · obtain rfl : j = k := by omega
              exact headAt_ok (by rw [Hl.out]; omega) he)
          rw [he] at hc
          generalize nth startL k = c at *
          clear he
          go_wp2_with fail
          go_round
          case rel => exact ⟨k + 1, by omega, by go_num, Hnext.out⟩
          case measure => simp [intOf]; omega
        · have Hbad := Lib.hid (headRes_bad (most := most) (headBad_at (by omega) hH.out (headAt_bad (by rw [Hl.out]; omega) he)))
          have hne : (((nth l (p + k) : Nat) : Int) != ((nth startL k : Nat) : Int)) = true := by rw [bne_iff_ne]; omega
          rw [if_neg (by omega : ¬ k = 4)] at Hbad
          generalize nth startL k = c at *
          generalize nth l (p + k) = d at *
          clear he
          go_wp2_with fail
          refine (new_any 12 _ _).mono ?_
          rintro e w' ⟨rfl, rfl⟩
          go_wp2_with fail
          go_ret3
          refine ⟨?_, Hb6.out⟩
          rw [Hbad.out]
          rfl
      · obtain rfl : k = m4 := by omega
        have hlt4 : k < 4 := by
          rcases Nat.lt_or_ge k 4 with h | h
          · exact h
          · exfalso
            have h0 := hH.out 0 (by omega); have h1 := hH.out 1 (by omega); have h2 := hH.out 2 (by omega); have h3 := hH.out 3 (by omega)
            have g : ∀ j, j < 4 → headAt l p j = none → nth l (p + j) = nth startL j := by
              intro j hj hh
              unfold headAt at hh
              rw [if_neg (by rw [Hl.out]; omega)] at hh
              by_cases e : nth l (p + j) = nth startL j
              · exact e
              · rw [if_neg e] at hh; cases hh
            have g0 := g 0 (by omega) h0
            have g1 := g 1 (by omega) h1
            have g2 := g 2 (by omega) h2
            have g3 := g 3 (by omega) h3
            rw [Nat.add_zero, Hd0.out] at g0
            rw [Hd1.out] at g1
            rw [Hd2.out] at g2
            rw [Hd3.out] at g3
            exact HE.out ⟨g0, g1, g2, g3⟩
        have hend : p + k = n := by have := HM.out; omega
        have Hbad := Lib.hid (headRes_bad (most := most) (headBad_at (show k < 5 by omega) hH.out (headAt_short (by rw [Hl.out]; omega))))
        clear hend
        go_wp2_with fail
        refine (new_any 5 _ _).mono ?_
        rintro e w' ⟨rfl, rfl⟩
        go_wp2_with fail
        go_ret3
        refine ⟨?_, Hb6.out⟩
        rw [Hbad.out]
        rfl

end Go.Proofs.YtejcakbkldecmaaDoor
