/- Walks and laws, merged: part 29. -/
import Derived.Test.YtlkchfhcfccaoaaGreatDoorPt28
import Derived.Test.YtlkchfhcfccaoaaGreatDoorPt18
import Derived.Test.YtlkchfhcfccaoaaGreatDoorPt06
import Derived.Test.YtlkchfhcfccaoaaGreatDoorPt23
section
namespace Go.Proofs.YtlkchfhcfccaoaaGreatDoor
open Go.RowKit
set_option linter.unusedVariables false

theorem errNew_nz {c : Nat} (a : Nat) (h : c ≠ 0) : errNew (c : Int) (a : Int) = some ((c : Int), some (a : Int)) := by
  unfold errNew; rw [if_neg (by omega)]

theorem keyCmp_any (r : Nat) (e : Ent) (s : Value) (w : World) : Calls Tryz.prog 90 #[.int .u64 r, entV e s] w fun x w' => x = .returned (.int .i64 (Lib.compareInt (e.1 : Int) (r : Int))) ∧ Below w.heap.size w w' := by
  obtain ⟨er, em, eh⟩ := e
  obtain ⟨q0, q1, q2⟩ := box3 w (.int .u64 er) (.int .u64 em) s 63 _ (Below.refl _ _)
  have Hal := Lib.hid ((Below.refl w.heap.size w).alloc (Nat.le_refl _) (.cells #[.int .u64 er, .int .u64 em, s] 63))
  go_enter Tryz.func90, Tryz.ntmps90
  go_wp2_with fail
  refine (cmp_any er r _).mono ?_
  rintro e w1 ⟨rfl, rfl⟩
  go_wp2
  go_ret
  exact ⟨rfl, Hal.out⟩

set_option maxRecDepth 20000 in
set_option maxHeartbeats 4000000 in
theorem vecCheck_any (a : Option Addr) (n cap : Nat) (v : Vec) (w : World) (hE : Ents w a n cap v) (hD : Door w) :
    Calls Tryz.prog 47 #[.slice a n cap] w fun x w' => x = .returned (errVal (errOf (ckV v))) ∧ Below w.heap.size w w' := by
  have HE := Lib.hid hE; have HD := Lib.hid hD
  have Hl := Lib.hid hE.len
  have hm : n ≤ 9223372036854775807 := Nat.le_trans hE.room hE.most
  have Hck := Lib.hid (show ckV v = firstS (ckVAt v) v.length from rfl)
  clear hE hD
  go_enter Tryz.func47, Tryz.ntmps47
  go_wp2
  go_loopw [3, 4, 5, 8] (fun _ _ _ i wr => ∃ k : Nat, k ≤ n ∧ i = .int .i64 k ∧ Below w.heap.size w wr ∧ Hid (∀ j, j < k → ckVAt v j = none)) (fun _ _ _ i _ => n - (intOf i).toNat)
  case atStart => exact ⟨0, by omega, rfl, Below.refl _ _, fun j h => by omega⟩
  case round =>
    obtain ⟨k, hk, rfl, hb, ht⟩ := hrel
    have Hb := Lib.hid hb; clear hb
    by_cases hkn : k < n
    · have hkv : k < v.length := by rw [Hl.out]; exact hkn
      have HEr := Lib.hid (HE.out.below Hb.out)
      obtain ⟨bb, oo, rfl⟩ := HEr.out.some (by omega)
      obtain ⟨x, m, c, hq⟩ := HEr.out.fix hkn
      have Hat := Lib.hid (show ckVAt v k = match ckE (nthE v k) with | some x => some (x.1, k) | none => if 0 < k ∧ (nthE v k).1 ≤ (nthE v (k - 1)).1 then some (3, k) else none from rfl)
      have Hp := Lib.hid (show 0 < k → ∀ w', Below wr.heap.size wr w' → w'.cell? ⟨bb, oo + (k - 1) * 3, none⟩ = some (.int .u64 (((nthE v (k - 1)).1 : Nat) : Int)) from fun h0 w' h => (HEr.out.at (k := k - 1) (by omega) w' h).1)
      generalize nthE v k = e at *
      generalize nthE v (k - 1) = p at *
      have h0 : (0 : Int) ≤ k := by omega
      have h04 : (k : Int) < (n : Int) := by omega
      obtain ⟨q1, q2, q3, -⟩ := hq _ (Below.refl _ _)
      have hal : Below wr.heap.size wr (wr.alloc (.cells #[.int .u64 e.1, .int .u64 e.2.1, .slice x m c] 63)) := (Below.refl _ _).alloc (Nat.le_refl _) _
      have HX := Lib.hid (box3 wr (.int .u64 e.1) (.int .u64 e.2.1) (.slice x m c) 63)
      have hDa := HD.out.below (Nat.le_refl _) (Hb.out.trans (hal.mono Hb.out.size))
      have hC := Lib.hid (entCheck_any e x m c (wr.alloc (.cells #[.int .u64 e.1, .int .u64 e.2.1, .slice x m c] 63)) (hq _ hal).2.2.2 hDa)
      have Hal := Lib.hid hal
      have HalW := Lib.hid (Hb.out.trans (hal.mono Hb.out.size))
      clear hq hal hDa
      obtain ⟨er, em, eh⟩ := e
      obtain ⟨pr, pm, ph⟩ := p
      simp only at q1 q2 q3 Hp Hat hC HX Hal HalW
      cases h : ckE (er, em, eh) with
      | some y =>
        obtain ⟨cd, ci⟩ := y
        rw [h] at Hat hC
        simp only [errOf, errVal] at Hat hC
        have hc0 := ckE_code h
        simp only at hc0
        have Hr := Lib.hid (firstS_some hkv ht.out Hat.out)
        clear h
        go_wp2_with fail
        refine hC.out.mono ?_
        rintro z w1 ⟨rfl, hb1⟩
        have Hb1 := Lib.hid (HalW.out.trans (hb1.mono HalW.out.size)); clear hb1
        go_wp2_with fail
        refine (code_any (some ((cd : Int), some (ci : Int))) _ (HD.out.below (Nat.le_refl _) Hb1.out)).mono ?_
        rintro z w2 ⟨rfl, hb2⟩
        have Hb2 := Lib.hid (Hb1.out.trans (hb2.mono Hb1.out.size)); clear hb2
        simp only [errCode]
        go_wp2_with fail
        refine (new_any cd k _).mono ?_
        rintro z w3 ⟨rfl, rfl⟩
        go_wp2
        go_ret
        exact ⟨by rw [Hck.out, Hr.out]; show _ = Ending.returned (errVal (some ((cd : Int), some (k : Int)))); rw [← errNew_nz k hc0]; rfl, Hb2.out⟩
      | none =>
        rw [h] at Hat hC
        simp only [errOf, errVal] at Hat hC
        clear h
        go_wp2_with fail
        refine hC.out.mono ?_
        rintro z w1 ⟨rfl, hb1⟩
        have Hb1 := Lib.hid hb1
        have Hw1 := Lib.hid (HalW.out.trans (hb1.mono HalW.out.size))
        clear hb1
        by_cases hk0 : 0 < k
        · have hg : decide (0 < (k : Int)) = true := by rw [decide_eq_true_iff]; omega
          have hsub : IntKind.i64.wrap ((k : Int) - 1) = ((k - 1 : Nat) : Int) := by rw [IntKind.wrap_i64]; omega
          have h01 : (0 : Int) ≤ ((k - 1 : Nat) : Int) := by omega
          have h03 : ((k - 1 : Nat) : Int) < (n : Int) := by omega
          have HX1 := Lib.hid (fun w' (h : Below w1.heap.size w1 w') => HX.out w' (Hb1.out.trans (h.mono Hb1.out.size)))
          have HP1 := Lib.hid (fun w' (h : Below w1.heap.size w1 w') => Hp.out hk0 w' (Hal.out.trans ((Hb1.out.trans (h.mono Hb1.out.size)).mono Hal.out.size)))
          have hK := Lib.hid (fun w' => keyCmp_any pr (er, em, eh) (.slice x m c) w')
          generalize k - 1 = k1 at *
          by_cases hle : er ≤ pr
          · have Hr := Lib.hid (firstS_some hkv ht.out (Hat.out.trans (if_pos ⟨hk0, hle⟩)))
            have hci : decide (Lib.compareInt (er : Int) (pr : Int) ≤ 0) = true := by
              unfold Lib.compareInt
              rw [decide_eq_true_iff]
              split
              · omega
              · rw [if_neg (by omega)]; omega
            generalize Lib.compareInt (er : Int) (pr : Int) = ci at *
            clear hle
            go_wp2_with fail
            go_cut [33] (fun t wc => t = .bool true ∧ Hid (Below w1.heap.size w1 wc))
            case first =>
              refine wp_region_below (by kernel_rfl) (by kernel_rfl) ?_
              repeat (go_big_quiet_step ((intro hw; first
                | rfl
                | (have q0 := HX1.out _ hw
                   have q1 := q0.1; have q2 := q0.2.1; have q3 := q0.2.2
                   have q4 := HP1.out _ hw
                   clear q0
                   first
                   | (go_at_call 90; exact keep_below hw (hK.out _))
                   | (go_simp
                      first | rfl | exact ⟨rfl, hw⟩ | (trace_state; fail))))))
              refine wpQuiet_nil ?_
              intro w3 hb3
              go_wp2
              go_meet
              exact ⟨rfl, hb3⟩
            case rest =>
              obtain ⟨rfl, hb2⟩ := hcut
              have Hb2 := Lib.hid (Hw1.out.trans (hb2.out.mono Hw1.out.size))
              clear hb2
              go_wp2_with fail
              refine (new_any 3 k _).mono ?_
              rintro z w3 ⟨rfl, rfl⟩
              go_wp2
              go_ret
              exact ⟨by rw [Hck.out, Hr.out]; rfl, Hb2.out⟩
          · have Hr := Lib.hid (firstS_step ht.out (Hat.out.trans (if_neg (fun h => hle h.2))))
            have hci : decide (Lib.compareInt (er : Int) (pr : Int) ≤ 0) = false := by
              unfold Lib.compareInt
              rw [decide_eq_false_iff_not, if_neg (by omega), if_pos (by omega)]
              omega
            generalize Lib.compareInt (er : Int) (pr : Int) = ci at *
            clear hle
            go_wp2_with fail
            go_cut [33] (fun t wc => t = .bool false ∧ Hid (Below w1.heap.size w1 wc))
            case first =>
              refine wp_region_below (by kernel_rfl) (by kernel_rfl) ?_
              repeat (go_big_quiet_step ((intro hw; first
                | rfl
                | (have q0 := HX1.out _ hw
                   have q1 := q0.1; have q2 := q0.2.1; have q3 := q0.2.2
                   have q4 := HP1.out _ hw
                   clear q0
                   first
                   | (go_at_call 90; exact keep_below hw (hK.out _))
                   | (go_simp
                      first | rfl | exact ⟨rfl, hw⟩ | (trace_state; fail))))))
              refine wpQuiet_nil ?_
              intro w3 hb3
              go_wp2
              go_meet
              exact ⟨rfl, hb3⟩
            case rest =>
              obtain ⟨rfl, hb2⟩ := hcut
              have Hb2 := Lib.hid (Hw1.out.trans (hb2.out.mono Hw1.out.size))
              clear hb2
              go_wp2
              go_roundw
              case rel => exact ⟨k + 1, by omega, by go_num, Hb2.out, Hr.out⟩
              case measure => simp [intOf]; omega
        · have hg : decide (0 < (k : Int)) = false := by rw [decide_eq_false_iff_not]; omega
          have hgn : decide (0 < k) = false := by rw [decide_eq_false_iff_not]; exact hk0
          have Hr := Lib.hid (firstS_step ht.out (Hat.out.trans (if_neg (fun h => hk0 h.1))))
          clear hk0
          go_wp2
          go_quiet (fail)
          go_wp2
          go_roundw
          case rel => exact ⟨k + 1, by omega, by go_num, by first | exact Hw1.out | exact below_drewN' Hw1.out _, Hr.out⟩
          case measure => simp [intOf]; omega
    · obtain rfl : k = n := by omega
      have Hr := Lib.hid (firstS_none (n := v.length) (fun j hj => ht.out j (by rw [← Hl.out]; exact hj)))
      go_wp2
      go_ret
      exact ⟨by rw [Hck.out, Hr.out]; rfl, Hb.out⟩

end Go.Proofs.YtlkchfhcfccaoaaGreatDoor
end

section
namespace Go.Proofs.YtlkchfhcfccaoaaGreatDoor
open Go.RowKit
set_option linter.unusedVariables false

/-- What a boxed fragment holds from then on. -/
theorem box2 (w : World) (x y : Value) (T : TypeId) (w' : World) (h : Below (w.alloc (.cells #[x, y] T)).heap.size (w.alloc (.cells #[x, y] T)) w') :
    w'.cell? ⟨w.heap.size, 0, none⟩ = some x ∧ w'.cell? ⟨w.heap.size, 1, none⟩ = some y := by
  have hrow : (w.alloc (.cells #[x, y] T)).heap[w.heap.size]? = some (.cells #[x, y] T) := row_new rfl
  exact ⟨(h.cell (p := ⟨w.heap.size, 0, none⟩) (by simp)).trans (cells_cell (i := 0) hrow rfl),
    (h.cell (p := ⟨w.heap.size, 1, none⟩) (by simp)).trans (cells_cell (i := 1) hrow rfl)⟩

set_option maxRecDepth 20000 in
set_option maxHeartbeats 4000000 in
theorem scoCheck_any (a : Option Addr) (n cap : Nat) (k : Kno) (w : World) (hE : Frags w a n cap k) (hD : Door w) :
    Calls Tryz.prog 20 #[.slice a n cap] w fun x w' => x = .returned (errVal (errOf (ckF k))) ∧ Below w.heap.size w w' := by
  have HE := Lib.hid hE; have HD := Lib.hid hD
  have Hl := Lib.hid hE.len
  have hm : n ≤ 9223372036854775807 := Nat.le_trans hE.room hE.most
  have Hck := Lib.hid (show ckF k = firstS (ckFAt k) k.length from rfl)
  clear hE hD
  go_enter Tryz.func20, Tryz.ntmps20
  go_wp2
  go_loopw [3, 4, 5, 6, 9] (fun _ _ _ _ i wr => ∃ d : Nat, d ≤ n ∧ i = .int .i64 d ∧ Below w.heap.size w wr ∧ Hid (∀ j, j < d → ckFAt k j = none)) (fun _ _ _ _ i _ => n - (intOf i).toNat)
  case atStart => exact ⟨0, by omega, rfl, Below.refl _ _, fun j h => by omega⟩
  case round =>
    obtain ⟨d, hd, rfl, hb, ht⟩ := hrel
    have Hb := Lib.hid hb; clear hb
    by_cases hdn : d < n
    · have hdk : d < k.length := by rw [Hl.out]; exact hdn
      have HEr := Lib.hid (HE.out.below Hb.out)
      obtain ⟨bb, oo, rfl⟩ := HEr.out.some (by omega)
      obtain ⟨x, m, c, y, m', c', hq⟩ := HEr.out.fix hdn
      have Hat := Lib.hid (show ckFAt k d = match ck (nthF k d).1 with | some x => some (x.1, d) | none => match ckV (nthF k d).2 with | some x => some (x.1, d) | none => none from rfl)
      have hal : Below wr.heap.size wr (wr.alloc (.cells #[.slice x m c, .slice y m' c'] 33)) := (Below.refl _ _).alloc (Nat.le_refl _) _
      have HX := Lib.hid (box2 wr (.slice x m c) (.slice y m' c') 33)
      have HalW := Lib.hid (Hb.out.trans (hal.mono Hb.out.size))
      have Hal := Lib.hid hal
      have hC := Lib.hid (check_any x m c (nthF k d).1 _ (hq _ hal).2.1 (HD.out.below (Nat.le_refl _) HalW.out))
      have hV := Lib.hid (fun w' (h : Below (wr.alloc (.cells #[.slice x m c, .slice y m' c'] 33)).heap.size (wr.alloc (.cells #[.slice x m c, .slice y m' c'] 33)) w') =>
        vecCheck_any y m' c' (nthF k d).2 w' (hq _ (hal.trans (h.mono hal.size))).2.2.2 (HD.out.below (Nat.le_refl _) (HalW.out.trans (h.mono HalW.out.size))))
      have h0 : (0 : Int) ≤ d := by omega
      have h04 : (d : Int) < (n : Int) := by omega
      obtain ⟨q1, -, q2, -⟩ := hq _ (Below.refl _ _)
      obtain ⟨x0, x1⟩ := HX.out _ (Below.refl _ _)
      clear hq hal
      generalize nthF k d = f at *
      cases h : ck f.1 with
      | some z =>
        have hc0 := ck_code h
        obtain ⟨cd, ci⟩ := z
        rw [h] at Hat hC
        simp only [errOf, errVal] at Hat hC
        simp only at hc0
        have Hr := Lib.hid (firstS_some hdk ht.out Hat.out)
        clear h hV
        go_wp2_with fail
        refine hC.out.mono ?_
        rintro z w1 ⟨rfl, hb1⟩
        have Hb1 := Lib.hid (HalW.out.trans (hb1.mono HalW.out.size)); clear hb1
        go_wp2_with fail
        refine (code_any (some ((cd : Int), some (ci : Int))) _ (HD.out.below (Nat.le_refl _) Hb1.out)).mono ?_
        rintro z w2 ⟨rfl, hb2⟩
        have Hb2 := Lib.hid (Hb1.out.trans (hb2.mono Hb1.out.size)); clear hb2
        simp only [errCode]
        go_wp2_with fail
        refine (new_any cd d _).mono ?_
        rintro z w3 ⟨rfl, rfl⟩
        go_wp2
        go_ret
        exact ⟨by rw [Hck.out, Hr.out]; show _ = Ending.returned (errVal (some ((cd : Int), some (d : Int)))); rw [← errNew_nz d hc0]; rfl, Hb2.out⟩
      | none =>
        rw [h] at Hat hC
        simp only [errOf, errVal] at Hat hC
        clear h
        go_wp2_with fail
        refine hC.out.mono ?_
        rintro z w1 ⟨rfl, hb1⟩
        have Hb1 := Lib.hid hb1
        have Hw1 := Lib.hid (HalW.out.trans (hb1.mono HalW.out.size))
        clear hb1 q1 q2 x0 x1
        obtain ⟨x0, x1⟩ := HX.out _ Hb1.out
        cases h : ckV f.2 with
        | some z =>
          have hc0 := ckV_code h
          obtain ⟨cd, ci⟩ := z
          rw [h] at Hat hV
          simp only [errOf, errVal] at Hat hV
          simp only at hc0
          have Hr := Lib.hid (firstS_some hdk ht.out Hat.out)
          clear h
          go_wp2_with fail
          refine (hV.out _ Hb1.out).mono ?_
          rintro z w2 ⟨rfl, hb2⟩
          have Hb2 := Lib.hid (Hw1.out.trans (hb2.mono Hw1.out.size)); clear hb2
          go_wp2_with fail
          refine (code_any (some ((cd : Int), some (ci : Int))) _ (HD.out.below (Nat.le_refl _) Hb2.out)).mono ?_
          rintro z w3 ⟨rfl, hb3⟩
          have Hb3 := Lib.hid (Hb2.out.trans (hb3.mono Hb2.out.size)); clear hb3
          simp only [errCode]
          go_wp2_with fail
          refine (new_any cd d _).mono ?_
          rintro z w4 ⟨rfl, rfl⟩
          go_wp2
          go_ret
          exact ⟨by rw [Hck.out, Hr.out]; show _ = Ending.returned (errVal (some ((cd : Int), some (d : Int)))); rw [← errNew_nz d hc0]; rfl, Hb3.out⟩
        | none =>
          rw [h] at Hat hV
          simp only [errOf, errVal] at Hat hV
          have Hr := Lib.hid (firstS_step ht.out Hat.out)
          clear h
          go_wp2_with fail
          refine (hV.out _ Hb1.out).mono ?_
          rintro z w2 ⟨rfl, hb2⟩
          have Hb2 := Lib.hid (Hw1.out.trans (hb2.mono Hw1.out.size)); clear hb2
          go_wp2
          go_roundw
          case rel => exact ⟨d + 1, by omega, by go_num, Hb2.out, Hr.out⟩
          case measure => simp [intOf]; omega
    · obtain rfl : d = n := by omega
      have Hr := Lib.hid (firstS_none (n := k.length) (fun j hj => ht.out j (by rw [← Hl.out]; exact hj)))
      go_wp2
      go_ret
      exact ⟨by rw [Hck.out, Hr.out]; rfl, Hb.out⟩

end Go.Proofs.YtlkchfhcfccaoaaGreatDoor
end

section
namespace Go.Proofs.YtlkchfhcfccaoaaGreatDoor
open Go.RowKit
set_option linter.unusedVariables false

theorem vecFind1_any (e : Ent) (s : Value) (r g : Nat) (w : World) (hf : w.cell? ⟨g, 0, none⟩ = some (.func (.func 90) #[] #[])) :
    Calls Tryz.prog 140 #[entV e s, .int .u64 r, .pointer (some ⟨g, 0, none⟩)] w fun x w' => x = .returned (.int .i64 (Lib.compareInt (e.1 : Int) (r : Int))) ∧ Below w.heap.size w w' := by
  have hK := Lib.hid (fun w' => keyCmp_any r e s w')
  obtain ⟨er, em, eh⟩ := e
  have hal : Below w.heap.size w (w.alloc (.cells #[.int .u64 er, .int .u64 em, s] 63)) := (Below.refl w.heap.size w).alloc (Nat.le_refl _) _
  obtain ⟨q0, q1, q2⟩ := box3 w (.int .u64 er) (.int .u64 em) s 63 _ (Below.refl _ _)
  have q3 := (hal.cell (cell_lt hf)).trans hf
  have Hal := Lib.hid hal
  simp only at hK
  generalize Lib.compareInt (er : Int) (r : Int) = z at *
  clear hf hal
  go_enter Tryz.func140, Tryz.ntmps140
  go_wp2_with fail
  refine (hK.out _).mono ?_
  rintro e w1 ⟨rfl, hb1⟩
  have Hb1 := Lib.hid hb1; clear hb1
  go_wp2
  go_ret
  exact ⟨rfl, Hal.out.trans (Hb1.out.mono Hal.out.size)⟩

theorem rep_mono {v : Vec} (h : v.Pairwise RepLt) {i j : Nat} (hij : i < j) (hj : j < v.length) : (nthE v i).1 < (nthE v j).1 := by
  have := List.pairwise_iff_getElem.1 h i j (by omega) hj hij
  rw [nthE_get (by omega), nthE_get hj]
  exact this

set_option maxHeartbeats 2000000 in
set_option maxRecDepth 20000 in
theorem bsearchV_any (a : Option Addr) (n cap r g : Nat) (v : Vec) (w : World) (hE : Ents w a n cap v) (hA : v.Pairwise RepLt) (hn : n ≤ 1000000) (hf : w.cell? ⟨g, 0, none⟩ = some (.func (.func 90) #[] #[])) :
    Calls Tryz.prog 139 #[.slice a n cap, .int .u64 r, .func (.func 140) #[] #[.pointer (some ⟨g, 0, none⟩)]] w fun e w' =>
      (∃ p : Nat, e = .returned (.tuple #[.int .i64 (p : Int), .bool (decide (p < n) && decide ((nthE v p).1 = r))]) ∧ p ≤ n ∧ (∀ t, t < p → (nthE v t).1 < r) ∧ (∀ t, p ≤ t → t < n → ¬ (nthE v t).1 < r)) ∧ Below w.heap.size w w' := by
  have HE := Lib.hid hE; have HA := Lib.hid hA
  have Hl := Lib.hid hE.len
  have Hf := Lib.hid (fun w' (h : Below w.heap.size w w') => (h.cell (p := ⟨g, 0, none⟩) (cell_lt hf)).trans hf)
  clear hE hA hf
  go_enter Tryz.func139, Tryz.ntmps139
  go_wp2
  go_loopw [9, 10, 11] (fun i j _ wr => ∃ p q : Nat, p ≤ q ∧ q ≤ n ∧ i = .int .i64 p ∧ j = .int .i64 q ∧ Below w.heap.size w wr ∧ Hid ((∀ t, t < p → (nthE v t).1 < r) ∧ ∀ t, q ≤ t → t < n → ¬ (nthE v t).1 < r)) (fun i j _ _ => (intOf j).toNat - (intOf i).toNat)
  case atStart => exact ⟨0, n, by omega, by omega, rfl, rfl, Below.refl _ _, fun t ht => by omega, fun t h1 h2 => by omega⟩
  case round =>
    obtain ⟨p, q, hpq, hqn, rfl, rfl, hb, ht⟩ := hrel
    have Hb := Lib.hid hb; clear hb
    have HEr := Lib.hid (HE.out.below Hb.out)
    by_cases hlt : p < q
    · obtain ⟨bb, oo, rfl⟩ := HEr.out.some (by omega)
      obtain ⟨h, hh, hph, hhq⟩ : ∃ h : Nat, ((p : Int) + (q : Int)) / 2 = (h : Int) ∧ p ≤ h ∧ h < q := ⟨(p + q) / 2, by omega, by omega, by omega⟩
      have hhn : h < n := by omega
      obtain ⟨x, m, c, hq⟩ := HEr.out.fix hhn
      obtain ⟨hc1, hc2, hc3, -⟩ := hq _ (Below.refl _ _)
      clear hq
      have hC := Lib.hid (vecFind1_any (nthE v h) (.slice x m c) r g wr (Hf.out _ Hb.out))
      have Hms := Lib.hid (fun t (ht : t < h) => rep_mono HA.out ht (by rw [Hl.out]; exact hhn))
      have Hms2 := Lib.hid (fun t (ht : h < t) (htl : t < n) => rep_mono HA.out ht (by rw [Hl.out]; exact htl))
      by_cases hlx : (nthE v h).1 < r
      · have hci : decide (Lib.compareInt ((nthE v h).1 : Int) (r : Int) < 0) = true := by
          unfold Lib.compareInt; rw [if_pos (by omega)]; rfl
        have Hr := Lib.hid (show ∀ t, t < h + 1 → (nthE v t).1 < r from by
          intro t htt
          by_cases e : t = h
          · subst e; exact hlx
          · have h1 := Hms.out t (by omega)
            omega)
        generalize Lib.compareInt ((nthE v h).1 : Int) (r : Int) = ci at *
        generalize nthE v h = s at *
        obtain ⟨sr, sm, sh⟩ := s
        simp only at hc1 hc2 hc3 hC
        clear hlx
        go_wp2_with fail
        refine hC.out.mono ?_
        rintro e w1 ⟨rfl, hb1⟩
        have Hb1 := Lib.hid (Hb.out.trans (hb1.mono Hb.out.size)); clear hb1
        clear hc1 hc2 hc3 hh
        go_wp2_with fail
        go_roundw
        case rel => exact ⟨h + 1, q, by omega, by omega, by go_num, rfl, Hb1.out, Hr.out, ht.out.2⟩
        case measure => simp [intOf]; omega
      · have hci : decide (Lib.compareInt ((nthE v h).1 : Int) (r : Int) < 0) = false := by
          unfold Lib.compareInt
          rw [decide_eq_false_iff_not, if_neg (by omega)]
          split <;> omega
        have Hr := Lib.hid (show ∀ t, h ≤ t → t < n → ¬ (nthE v t).1 < r from by
          intro t htt htn
          by_cases e : t = h
          · subst e; exact hlx
          · have h1 := Hms2.out t (by omega) htn
            omega)
        generalize Lib.compareInt ((nthE v h).1 : Int) (r : Int) = ci at *
        generalize nthE v h = s at *
        obtain ⟨sr, sm, sh⟩ := s
        simp only at hc1 hc2 hc3 hC
        clear hlx
        go_wp2_with fail
        refine hC.out.mono ?_
        rintro e w1 ⟨rfl, hb1⟩
        have Hb1 := Lib.hid (Hb.out.trans (hb1.mono Hb.out.size)); clear hb1
        clear hc1 hc2 hc3 hh
        go_wp2_with fail
        go_roundw
        case rel => exact ⟨p, h, by omega, by omega, rfl, rfl, Hb1.out, ht.out.1, Hr.out⟩
        case measure => simp [intOf]; omega
    · obtain rfl : p = q := by omega
      by_cases hpn : p < n
      · obtain ⟨bb, oo, rfl⟩ := HEr.out.some (by omega)
        obtain ⟨x, m, c, hq⟩ := HEr.out.fix hpn
        obtain ⟨hc1, hc2, hc3, -⟩ := hq _ (Below.refl _ _)
        clear hq
        have hC := Lib.hid (vecFind1_any (nthE v p) (.slice x m c) r g wr (Hf.out _ Hb.out))
        have hnl := ht.out.2 p (Nat.le_refl _) hpn
        have hd : decide (p < n) = true := by rw [decide_eq_true_iff]; exact hpn
        have hci : (Lib.compareInt ((nthE v p).1 : Int) (r : Int) == 0) = decide ((nthE v p).1 = r) := by
          unfold Lib.compareInt
          rw [if_neg (by omega)]
          by_cases h : r < (nthE v p).1
          · rw [if_pos (by omega), decide_eq_false (by omega)]; rfl
          · rw [if_neg (by omega), decide_eq_true (by omega)]; rfl
        have Hci := Lib.hid hci
        have Hd := Lib.hid hd
        obtain ⟨bq, hbq⟩ : ∃ bq : Bool, bq = decide ((nthE v p).1 = r) := ⟨_, rfl⟩
        rw [← hbq] at Hci
        have Hbq := Lib.hid hbq
        generalize Lib.compareInt ((nthE v p).1 : Int) (r : Int) = ci at *
        have hci2 := Hci.out
        generalize hs : nthE v p = s at *
        obtain ⟨sr, sm, sh⟩ := s
        simp only at hc1 hc2 hc3 hC
        have HS := Lib.hid hs
        clear hnl hci hbq hs
        go_wp2_with fail
        refine hC.out.mono ?_
        rintro e w1 ⟨rfl, hb1⟩
        have Hb1 := Lib.hid (Hb.out.trans (hb1.mono Hb.out.size)); clear hb1
        clear hc1 hc2 hc3
        go_wp2_with fail
        go_ret2
        exact ⟨⟨p, by rw [Hd.out, Bool.true_and, HS.out, ← Hbq.out]; first | rfl | (simp [hci2]; rfl), hqn, ht.out⟩, Hb1.out⟩
      · obtain rfl : p = n := by omega
        have hd : decide ((p : Int) < (p : Int)) = false := by simp
        have Hd2 := Lib.hid (show decide (p < p) = false from by simp)
        go_wp2_with fail
        go_ret2
        exact ⟨⟨p, by rw [Hd2.out, Bool.false_and]; rfl, hqn, ht.out⟩, Hb.out⟩

theorem posE_at {v : Vec} {r p : Nat} (hp : p ≤ v.length) (h1 : ∀ t, t < p → (nthE v t).1 < r) (h2 : ∀ t, p ≤ t → t < v.length → ¬ (nthE v t).1 < r) (hA : v.Pairwise RepLt) :
    posE v r = if p < v.length ∧ (nthE v p).1 = r then some p else none := by
  unfold posE
  split
  · rename_i h
    exact firstS_some h.1 (fun j hj => by have := h1 j hj; rw [if_neg (by omega)]) (by rw [if_pos h.2])
  · rename_i h
    refine firstS_none fun j hj => ?_
    rw [if_neg]
    intro hr
    by_cases hjp : j < p
    · have := h1 j hjp; omega
    · by_cases e : j = p
      · subst e; exact h ⟨hj, hr⟩
      · have h3 := rep_mono hA (i := p) (j := j) (by omega) hj
        have h4 := h2 p (Nat.le_refl _) (by omega)
        omega

theorem run_store_fn (P : Program) (w : World) (a : Addr) (m : Mode) (f : Fn) (t c : Array Value) : (store a (.func f t c) m).run P w = stored P w a (.func f t c) m := run_store P w a _ m rfl
attribute [local go_sem] run_store_fn

theorem vecFind_any (a : Option Addr) (n cap r : Nat) (v : Vec) (w : World) (hE : Ents w a n cap v) (hA : v.Pairwise RepLt) (hn : n ≤ 1000000) :
    Calls Tryz.prog 92 #[.slice a n cap, .int .u64 r] w fun x w' => x = .returned (.int .i64 (intO (posE v r))) ∧ Below w.heap.size w w' := by
  obtain ⟨W, hW⟩ : ∃ W, W = w.alloc (.cells #[.func (.func 90) #[] #[]] 182) := ⟨_, rfl⟩
  have hal : Below w.heap.size w W := by rw [hW]; exact (Below.refl _ _).alloc (Nat.le_refl _) _
  have hc : W.cell? ⟨w.heap.size, 0, none⟩ = some (.func (.func 90) #[] #[]) := by
    rw [hW]; exact cells_cell (i := 0) (row_new rfl) rfl
  have hC := Lib.hid (bsearchV_any a n cap r w.heap.size v W (hE.below hal) hA hn hc)
  have Hal := Lib.hid hal
  have HA := Lib.hid hA
  have Hl := Lib.hid hE.len
  clear hE hA hal hc
  go_enter Tryz.func92, Tryz.ntmps92
  go_wp2_with fail
  rw [← hW]
  refine hC.out.mono ?_
  rintro e w1 ⟨⟨p, rfl, hp, h1, h2⟩, hb1⟩
  have Hb1 := Lib.hid (Hal.out.trans (hb1.mono Hal.out.size)); clear hb1
  have Hpos := Lib.hid (posE_at (v := v) (r := r) (p := p) (by rw [Hl.out]; exact hp) h1 (by rw [Hl.out]; exact h2) HA.out)
  rw [Hl.out] at Hpos
  by_cases hh : p < n ∧ (nthE v p).1 = r
  · rw [if_pos hh] at Hpos
    rw [show (decide (p < n) && decide ((nthE v p).1 = r)) = true from by simp [hh.1, hh.2]]
    clear hh h1 h2 hW
    go_wp2
    go_ret
    exact ⟨by rw [Hpos.out]; rfl, Hb1.out⟩
  · rw [if_neg hh] at Hpos
    rw [show (decide (p < n) && decide ((nthE v p).1 = r)) = false from by rw [Bool.eq_false_iff]; intro h; rw [Bool.and_eq_true, decide_eq_true_iff, decide_eq_true_iff] at h; exact hh h]
    clear hh h1 h2 hW
    go_wp2
    go_ret
    exact ⟨by rw [Hpos.out]; rfl, Hb1.out⟩

end Go.Proofs.YtlkchfhcfccaoaaGreatDoor
end
