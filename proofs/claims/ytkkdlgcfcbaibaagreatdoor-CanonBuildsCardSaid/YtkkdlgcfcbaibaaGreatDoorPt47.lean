/-
  Walk: kenningref13.Build.
-/
import Derived.Test.YtkkdlgcfcbaibaaGreatDoorPt46
namespace Go.Proofs.YtkkdlgcfcbaibaaGreatDoor
open Go.RowKit
set_option linter.unusedVariables false

/-- What the reference answers. -/
def BldRes (vs : List Vec) (l : List Iv) (ix : List Int) (x : Ending) (w' : World) : Prop := ∃ a n c, x = .returned (.tuple #[.slice a n c, .int .i64 (errCode (bldErr vs l ix)), .int .i64 (errAt (bldErr vs l ix))]) ∧ Frags w' a n c (bldRes vs l ix)
theorem bldRes_bad {vs : List Vec} {l : List Iv} {ix : List Int} {w' : World} {c a : Int} (h : bldErr vs l ix = some (c, some a)) : BldRes vs l ix (.returned (.tuple #[.slice none 0 0, .int .i64 c, .int .i64 a])) w' := by
  refine ⟨none, 0, 0, by rw [h]; rfl, ?_⟩
  unfold bldRes
  rw [h, if_neg (by intro h; cases h)]
  exact frags_nil _
theorem bldRes_good {vs : List Vec} {l : List Iv} {ix : List Int} {w' : World} {a : Option Addr} {n c : Nat} (h : bldErr vs l ix = none) (hF : Frags w' a n c (bldK vs l ix)) : BldRes vs l ix (.returned (.tuple #[.slice a n c, .int .i64 0, .int .i64 (-1)])) w' := by
  refine ⟨a, n, c, by rw [h]; rfl, ?_⟩
  unfold bldRes
  rw [h, if_pos rfl]
  exact hF

set_option maxRecDepth 100000 in
set_option maxHeartbeats 8000000 in
theorem refBuild13_any (av al ai : Option Addr) (nv cv nl cl ni ci : Nat) (vs : List Vec) (l : List Iv) (ix : List Int) (w : World) (hV : Vecs w av nv cv vs) (hI : Ivs w al nl cl l) (hZ : Zs w ai ni ci ix) (hF : ∀ v ∈ vs, VecFits v) (hnv : nv ≤ 200) (hnl : nl ≤ 500) :
    Calls Tryz.prog 29 #[.slice av nv cv, .slice al nl cl, .slice ai ni ci] w fun x w' => BldRes vs l ix x w' ∧ Below w.heap.size w w' := by
  have HV := Lib.hid hV; have HI := Lib.hid hI; have HZ := Lib.hid hZ; have HF := Lib.hid hF
  have Hvl := Lib.hid hV.len
  have Hll := Lib.hid hI.len
  have Hzl := Lib.hid hZ.len
  have Hbe := Lib.hid (show bldErr vs l ix = match segErr nv l ix with | some e => some e | none => errOf (ckC (bldK vs l ix)) from by rw [← hV.len]; rfl)
  have each : ∀ i, i < nv → ∃ q : Value, (∀ W, Below w.heap.size w W → ∃ bb oo, av = some ⟨bb, oo, none⟩ ∧ W.cell? ⟨bb, oo + i, none⟩ = some q) ∧ ∃ y m c, q = .slice y m c ∧ ∀ W, Below w.heap.size w W → Ents W y m c (nthV vs i) := fun i hi => by
    obtain ⟨bb, oo, rfl⟩ := hV.some (by omega)
    obtain ⟨y, m, c, hq⟩ := hV.fix hi
    exact ⟨.slice y m c, fun W h => ⟨bb, oo, rfl, (hq W h).1⟩, y, m, c, rfl, fun W h => (hq W h).2⟩
  obtain ⟨Y, hY⟩ := Deep.choose_lt each
  have HY := Lib.hid hY
  clear hV hZ hF each hY
  by_cases hne : nl = ni
  · have Hlz := Lib.hid hne
    have hb0 : ((nl : Int) != (ni : Int)) = false := by rw [hne]; simp
    have Hck := Lib.hid (segErr_eq (N := nv) (ix := ix) hI.len (by rw [Hzl.out]; exact hne.symm))
    have hni : ni ≤ 500 := by omega
    clear hI hne
    go_enter Tryz.func29, Tryz.ntmps29
    go_wp2
    go_loopw [9] (fun i wr => ∃ j : Nat, j ≤ ni ∧ i = .int .i64 j ∧ Below w.heap.size w wr ∧ Hid (∀ t, t < j → bldE1 nv ix t = none)) (fun i _ => ni - (intOf i).toNat)
    case atStart => exact ⟨0, by omega, rfl, Below.refl _ _, fun t h => by omega⟩
    case round =>
      obtain ⟨j, hj, rfl, hb, ht⟩ := hrel
      have Hb := Lib.hid hb; clear hb
      by_cases hjn : j < ni
      · obtain ⟨bz, oz, rfl⟩ := HZ.out.some (by omega)
        have z1 := HZ.out.at hjn _ Hb.out
        have Hat := Lib.hid (show bldE1 nv ix j = if nthZ ix j < 0 ∨ (nv : Int) ≤ nthZ ix j then some (8, j) else none from rfl)
        have h0 : (0 : Int) ≤ j := by omega
        have h04 : (j : Int) < (ni : Int) := by omega
        generalize nthZ ix j = x at *
        by_cases hx : x < 0 ∨ (nv : Int) ≤ x
        · have Hr := Lib.hid (show bldErr vs l ix = some (8, some (j : Int)) from by
            rw [Hbe.out, Hck.out, ← Hlz.out] at *
            rw [firstS_some (by omega) ht.out (Hat.out.trans (if_pos hx))]
            rfl)
          by_cases hx0 : x < 0
          · have hd1 : decide (x < 0) = true := by rw [decide_eq_true_iff]; exact hx0
            clear hx hx0
            go_wp2
            go_ret3
            exact ⟨bldRes_bad Hr.out, Hb.out⟩
          · have hd1 : decide (x < 0) = false := by rw [decide_eq_false_iff_not]; exact hx0
            have hd2 : decide ((nv : Int) ≤ x) = true := by rw [decide_eq_true_iff]; omega
            clear hx hx0
            go_wp2
            go_ret3
            exact ⟨bldRes_bad Hr.out, Hb.out⟩
        · have Hr := Lib.hid (firstS_step ht.out (Hat.out.trans (if_neg hx)))
          have hd1 : decide (x < 0) = false := by rw [decide_eq_false_iff_not]; omega
          have hd2 : decide ((nv : Int) ≤ x) = false := by rw [decide_eq_false_iff_not]; omega
          clear hx
          go_wp2
          go_roundw
          case rel => exact ⟨j + 1, by omega, by go_num, Hb.out, Hr.out⟩
          case measure => simp [intOf]; omega
      · have Hf1 := Lib.hid (firstS_none (n := nl) (fun t htl => ht.out t (by have := Hlz.out; omega)))
        have Hix := Lib.hid (show ∀ t, t < nl → ∃ i : Nat, i < nv ∧ nthZ ix t = (i : Int) from fun t htl => by
          have := ht.out t (by have := Hlz.out; omega)
          unfold bldE1 at this
          split at this
          · cases this
          · exact ⟨(nthZ ix t).toNat, by omega, by omega⟩)
        have Hb0 := Lib.hid Hb.out
        clear ht Hb
        rw [Hf1.out, Option.none_or] at Hck
        obtain ⟨wA, hwA⟩ : ∃ wA : World, wA = wr := ⟨_, rfl⟩
        rw [← hwA] at Hb0 ⊢
        clear hwA
        go_wp2
        go_loopw [10] (fun i wr => ∃ t : Nat, t ≤ nl ∧ i = .int .i64 t ∧ Below w.heap.size w wr ∧ Hid (∀ q, q < t → bldE2 l q = none)) (fun i _ => nl - (intOf i).toNat)
        case atStart => exact ⟨0, by omega, rfl, Hb0.out, fun q h => by omega⟩
        case round =>
          obtain ⟨t, ht, rfl, hb, hq⟩ := hrel
          have Hb := Lib.hid hb; clear hb
          by_cases htj : t < nl
          · obtain ⟨bl, ol, rfl⟩ := HI.out.some (by omega)
            have Hc' := Lib.hid (fun (h1 : t - 1 < nl) w' (h : Below wr.heap.size wr w') => HI.out.at h1 w' (Hb.out.trans (h.mono Hb.out.size)))
            have Hat := Lib.hid (show bldE2 l t = if (nthI l t).2 < (nthI l t).1 then some (2, t) else if 0 < t ∧ (nthI l t).1 ≤ (nthI l (t - 1)).2 then some (3, t) else none from rfl)
            have Hbad := Lib.hid (fun x (hx : bldE2 l t = some x) => show bldErr vs l ix = errOf (some x) from by
              have := Hbe.out
              rw [Hck.out, firstS_some htj hq.out hx] at this
              obtain ⟨x1, x2⟩ := x
              exact this)
            have h0 : (0 : Int) ≤ t := by omega
            have h04 : (t : Int) < (nl : Int) := by omega
            have Hc := Lib.hid (fun w' (h : Below wr.heap.size wr w') => HI.out.at htj w' (Hb.out.trans (h.mono Hb.out.size)))
            obtain ⟨q1, q2⟩ := Hc.out _ (Below.refl _ _)
            generalize nthI l t = s at *
            generalize nthI l (t - 1) = p at *
            obtain ⟨sx, sy⟩ := s
            obtain ⟨px, py⟩ := p
            simp only at q1 q2 Hc Hc' Hat
            by_cases hbad : sy < sx
            · have Hr := Lib.hid (Hbad.out _ (Hat.out.trans (if_pos hbad)))
              have hd1 : decide ((sy : Int) < (sx : Int)) = true := by rw [decide_eq_true_iff]; omega
              have hd2 : decide (sy < sx) = true := by rw [decide_eq_true_iff]; exact hbad
              clear hbad Hat
              go_wp2
              go_quiet (fail)
              go_wp2
              go_ret3
              exact ⟨bldRes_bad Hr.out, by first | exact Hb.out | exact below_drewN' Hb.out _⟩
            · have hd1 : decide ((sy : Int) < (sx : Int)) = false := by rw [decide_eq_false_iff_not]; omega
              have hd2 : decide (sy < sx) = false := by rw [decide_eq_false_iff_not]; exact hbad
              rw [if_neg hbad] at Hat
              clear hbad
              by_cases ht0 : 0 < t
              · have hg1 : decide (0 < (t : Int)) = true := by rw [decide_eq_true_iff]; omega
                have hsub : IntKind.i64.wrap ((t : Int) - 1) = ((t - 1 : Nat) : Int) := by rw [IntKind.wrap_i64]; omega
                have h01 : (0 : Int) ≤ ((t - 1 : Nat) : Int) := by omega
                have h03 : ((t - 1 : Nat) : Int) < (nl : Int) := by omega
                obtain ⟨q3, q4⟩ := Hc'.out (by omega) _ (Below.refl _ _)
                by_cases hle : sx ≤ py
                · have Hr := Lib.hid (Hbad.out _ (Hat.out.trans (if_pos ⟨ht0, hle⟩)))
                  have hd3 : decide ((sx : Int) ≤ (py : Int)) = true := by rw [decide_eq_true_iff]; omega
                  have hd4 : decide (sx ≤ py) = true := by rw [decide_eq_true_iff]; exact hle
                  clear hle Hat Hc'
                  generalize t - 1 = t1 at *
                  go_wp2
                  go_quiet (fail)
                  go_wp2
                  go_quiet (fail)
                  go_wp2
                  go_ret3
                  exact ⟨bldRes_bad Hr.out, by first | exact Hb.out | exact below_drewN' Hb.out _ | exact below_drewN' (below_drewN' Hb.out _) _⟩
                · have Hr := Lib.hid (firstS_step hq.out (Hat.out.trans (if_neg (fun h => hle h.2))))
                  have hd3 : decide ((sx : Int) ≤ (py : Int)) = false := by rw [decide_eq_false_iff_not]; omega
                  have hd4 : decide (sx ≤ py) = false := by rw [decide_eq_false_iff_not]; exact hle
                  clear hle Hat Hc'
                  generalize t - 1 = t1 at *
                  go_wp2
                  go_quiet (fail)
                  go_wp2
                  go_quiet (fail)
                  go_wp2
                  go_roundw
                  case rel => exact ⟨t + 1, by omega, by go_num, by first | exact Hb.out | exact below_drewN' Hb.out _ | exact below_drewN' (below_drewN' Hb.out _) _, Hr.out⟩
                  case measure => simp [intOf]; omega
              · have hg1 : decide (0 < (t : Int)) = false := by rw [decide_eq_false_iff_not]; omega
                have hg2 : decide (0 < t) = false := by rw [decide_eq_false_iff_not]; omega
                have Hr := Lib.hid (firstS_step hq.out (Hat.out.trans (if_neg (fun h => ht0 h.1))))
                clear Hat
                go_wp2
                go_quiet (fail)
                go_wp2
                go_quiet (fail)
                go_wp2
                go_roundw
                case rel => exact ⟨t + 1, by omega, by go_num, by first | exact Hb.out | exact below_drewN' Hb.out _ | exact below_drewN' (below_drewN' Hb.out _) _, Hr.out⟩
                case measure => simp [intOf]; omega
          · obtain rfl : t = nl := by omega
            have Hf2 := Lib.hid (firstS_none hq.out)
            have HG := Lib.hid (show ∀ q, q < t → (nthI l q).1 ≤ (nthI l q).2 ∧ (0 < q → (nthI l (q - 1)).2 < (nthI l q).1) from fun q hqt => by
              have h := hq.out q hqt
              unfold bldE2 at h
              split at h
              · cases h
              · split at h
                · cases h
                · exact ⟨by omega, fun h0 => by omega⟩)
            have HltI := Lib.hid HI.out.lt
            rw [Hf2.out, Option.none_or] at Hck
            obtain ⟨wB, hwB⟩ : ∃ wB : World, wB = wr := ⟨_, rfl⟩
            rw [← hwB] at Hb ⊢
            have Hb5 := Lib.hid Hb.out
            clear hwB hq Hf2 Hf1 Hb Hb0
            go_wp2
            go_loopw [11] (fun i wr => ∃ q : Nat, 1 ≤ q ∧ (q ≤ t ∨ q = 1) ∧ i = .int .i64 q ∧ Below w.heap.size w wr ∧ Hid (∀ u, u < q → bldE3 l ix u = none)) (fun i _ => t - (intOf i).toNat)
            case atStart => exact ⟨1, Nat.le_refl _, .inr rfl, rfl, Hb5.out, fun u hu => by
              obtain rfl : u = 0 := by omega
              unfold bldE3
              exact if_neg (fun h => by omega)⟩
            case round =>
              obtain ⟨q, hq1, hqt, rfl, hb, hu⟩ := hrel
              have Hb := Lib.hid hb; clear hb
              have h0 : (0 : Int) ≤ q := by omega
              by_cases hqn : q < t
              · obtain ⟨bl, ol, rfl⟩ := HI.out.some (by omega)
                obtain ⟨bz, oz, rfl⟩ := HZ.out.some (by have := Hlz.out; omega)
                obtain ⟨q1, q2⟩ := HI.out.at hqn wr Hb.out
                obtain ⟨q3, q4⟩ := HI.out.at (show q - 1 < t by omega) wr Hb.out
                have z1 := HZ.out.at (j := q) (by have := Hlz.out; omega) wr Hb.out
                have z2 := HZ.out.at (j := q - 1) (by have := Hlz.out; omega) wr Hb.out
                have Hat := Lib.hid (show bldE3 l ix q = if 0 < q ∧ (nthI l q).1 = (nthI l (q - 1)).2 + 1 ∧ nthZ ix q = nthZ ix (q - 1) then some (10, q) else none from rfl)
                obtain ⟨g1, g2⟩ := HG.out q hqn
                have g2 := g2 hq1
                have l1 := HltI.out _ (nthI_mem (l := l) (k := q) (by rw [Hll.out]; exact hqn))
                have h04 : (q : Int) < (t : Int) := by omega
                have h05 : (q : Int) < (ni : Int) := by have := Hlz.out; omega
                have hsub : IntKind.i64.wrap ((q : Int) - 1) = ((q - 1 : Nat) : Int) := by rw [IntKind.wrap_i64]; omega
                have h01 : (0 : Int) ≤ ((q - 1 : Nat) : Int) := by omega
                have h03 : ((q - 1 : Nat) : Int) < (t : Int) := by omega
                have h06 : ((q - 1 : Nat) : Int) < (ni : Int) := by have := Hlz.out; omega
                generalize nthI l q = s at *
                generalize nthI l (q - 1) = p at *
                generalize nthZ ix q = x at *
                generalize nthZ ix (q - 1) = y at *
                obtain ⟨sx, sy⟩ := s
                obtain ⟨px, py⟩ := p
                simp only at q1 q2 q3 q4 Hat g2 l1
                have hsw : IntKind.u64.wrap ((sx : Int) - (py : Int)) = ((sx - py : Nat) : Int) := by rw [IntKind.wrap_u64]; omega
                generalize q - 1 = q' at *
                by_cases htc : sx = py + 1
                · have ht1 : (((sx - py : Nat) : Int) == 1) = true := by rw [beq_iff_eq]; omega
                  clear g1 g2 l1
                  by_cases hxy : x = y
                  · have Hr := Lib.hid (show bldErr vs l ix = some (10, some (q : Int)) from by
                      have := Hbe.out
                      rw [Hck.out, firstS_some hqn hu.out (Hat.out.trans (if_pos ⟨by omega, htc, hxy⟩))] at this
                      exact this)
                    have hxy1 : (x == y) = true := by rw [hxy]; exact beq_self_eq_true y
                    clear htc Hat
                    subst hxy
                    go_wp2
                    go_quiet (fail)
                    go_wp2
                    go_ret3
                    exact ⟨bldRes_bad Hr.out, by first | exact Hb.out | exact below_drewN' Hb.out _⟩
                  · have Hr := Lib.hid (firstS_step hu.out (Hat.out.trans (if_neg (fun h => hxy h.2.2))))
                    have hxy1 : (x == y) = false := by rw [beq_eq_false_iff_ne]; exact hxy
                    clear htc Hat hxy
                    go_wp2
                    go_quiet (fail)
                    go_wp2
                    go_roundw
                    case rel => exact ⟨q + 1, by omega, .inl (by omega), by go_num, by first | exact Hb.out | exact below_drewN' Hb.out _, Hr.out⟩
                    case measure => simp [intOf]; omega
                · have ht1 : (((sx - py : Nat) : Int) == 1) = false := by rw [beq_eq_false_iff_ne]; omega
                  have Hr := Lib.hid (firstS_step hu.out (Hat.out.trans (if_neg (fun h => htc h.2.1))))
                  clear htc Hat g1 g2 l1
                  go_wp2
                  go_quiet (fail)
                  go_wp2
                  go_roundw
                  case rel => exact ⟨q + 1, by omega, .inl (by omega), by go_num, by first | exact Hb.out | exact below_drewN' Hb.out _, Hr.out⟩
                  case measure => simp [intOf]; omega
              · have Hr := Lib.hid (firstS_none (n := t) (fun u hu' => hu.out u (by omega)))
                rw [Hr.out] at Hck
                have Hbe2 := Lib.hid (show bldErr vs l ix = errOf (ckC (bldK vs l ix)) from by
                  have := Hbe.out
                  rw [Hck.out] at this
                  exact this)
                obtain ⟨wC, hwC⟩ : ∃ wC : World, wC = wr := ⟨_, rfl⟩
                rw [← hwC] at Hb ⊢
                have Hb6 := Lib.hid Hb.out
                clear hwC hu Hr Hb Hb5 HG h0 Hck Hbe
                go_wp2
                go_loopw [12, 13] (fun v i wr => ∃ d : Nat, d ≤ nv ∧ i = .int .i64 d ∧ Below w.heap.size w wr ∧ (d = 0 → v = .slice none 0 0) ∧ Hid (wr.ownsRow w.heap.size 39 2 v d (frgF d (fun _ => .slice none 0 0) Y))) (fun _ i _ => nv - (intOf i).toNat)
                case atStart => exact ⟨0, by omega, rfl, Hb6.out, fun _ => rfl, World.ownsRow_nil _ _ _ _⟩
                case round =>
                  obtain ⟨d, hd, rfl, hb, hnil, ho⟩ := hrel
                  have Hb := Lib.hid hb; clear hb
                  by_cases hdn : d < nv
                  · obtain ⟨hc, y, m, c, hy, -⟩ := HY.out d hdn
                    obtain ⟨bb, oo, rfl, q1⟩ := hc _ Hb.out
                    rw [hy] at q1
                    have hal : Below wr.heap.size wr (wr.alloc (.cells #[.slice none 0 0, .slice y m c] 39)) := (Below.refl _ _).alloc (Nat.le_refl _) _
                    obtain ⟨v', w9, hrun, ho9, hg9⟩ := run_append_rd (P := Tryz.prog) w.heap.size 23 23 39 _ 2 48 Tryz.underlying23 Tryz.info_frg rfl (by omega) _ d _ (own_below ho.out hal) (some ⟨wr.heap.size, 0, none⟩) 1 1 [.slice none 0 0, .slice y m c] (rd_block (heap_at_new _ _ _ rfl) rfl rfl) (by simp [Value.oneCell']) (by unfold maxLen; omega) (by omega) (by have := Hb.out.size; simp; omega)
                    have Hsuc := Lib.hid (show frgF (d + 1) (fun _ => .slice none 0 0) Y = frgF d (fun _ => .slice none 0 0) Y ++ [.slice none 0 0, .slice y m c] from by rw [frgF_succ, hy])
                    have Ho9 := Lib.hid ho9
                    have Hb9 := Lib.hid (Below.grown (B := w.heap.size) (Hb.out.trans (hal.mono Hb.out.size)) hg9 (by have := Hb.out.size; simp; omega) (fun k hk => (ho.out.lt k hk).1))
                    have Hrun := Lib.hid hrun
                    have h0 : (0 : Int) ≤ d := by omega
                    have h04 : (d : Int) < (nv : Int) := by omega
                    clear hc hy hal hrun ho9 hg9 hnil
                    go_wp2_with (at_builtin; refine wpList_append_hr _ _ 23 rfl rfl _ _ rfl rfl _ _ Hrun.out ?_)
                    go_roundw
                    case rel => exact ⟨d + 1, by omega, by go_num, Hb9.out, fun h => absurd h (Nat.succ_ne_zero d), by rw [Hsuc.out]; exact Ho9.out⟩
                    case measure => simp [intOf]; omega
                  · obtain rfl : d = nv := by omega
                    have hb' := Hb.out
                    obtain ⟨w5, hw5⟩ : ∃ w5 : World, w5 = wr := ⟨_, rfl⟩
                    rw [← hw5] at Hb ho hb' ⊢
                    have Hb5 := Lib.hid hb'
                    clear hw5 Hb Hb6 hb'
                    by_cases hz : d = 0
                    · have hvn := hnil hz
                      subst hvn
                      have ht0 : t = 0 := by
                        rcases Nat.eq_zero_or_pos t with h | h
                        · exact h
                        · obtain ⟨i, hi, -⟩ := Hix.out 0 h
                          omega
                      have Hbk := Lib.hid (show bldK vs l ix = [] from List.length_eq_zero_iff.1 (by unfold bldK; rw [bld_len, Hvl.out]; exact hz))
                      subst ht0
                      clear hnil
                      go_wp2
                      go_loopw [14] (fun i wr => i = .int .i64 0 ∧ Below w.heap.size w wr) (fun _ _ => 0)
                      case atStart => exact ⟨rfl, Hb5.out⟩
                      case round =>
                        obtain ⟨rfl, hb⟩ := hrel
                        have Hb := Lib.hid hb; clear hb
                        have HFr := Lib.hid (show Frags wr none 0 0 (bldK vs l ix) from by rw [Hbk.out]; exact frags_nil _)
                        have hC := Lib.hid (refCheck13_any _ _ _ _ wr HFr.out (fun f hf => HF.out _ (bld_vec hf)) (fun f hf => by
                          unfold bldK bldTo at hf
                          obtain ⟨i, hi, rfl⟩ := List.mem_map.1 hf
                          have := itB_len l ix i l.length
                          rw [Hll.out] at this
                          simp only
                          rw [Hll.out]
                          omega))
                        cases hc : ckC (bldK vs l ix) with
                        | some p =>
                          obtain ⟨cd, i⟩ := p
                          have hne : ((cd : Int) != 0) = true := by
                            rw [bne_iff_ne]
                            have h1 : cd ≠ 0 := ckC_code hc
                            omega
                          rw [hc] at hC Hbe2
                          simp only [errOf, errCode, errAt] at hC
                          have He := Lib.hid (show bldErr vs l ix = some ((cd : Int), some (i : Int)) from Hbe2.out)
                          clear hc
                          go_wp2_with fail
                          refine hC.out.mono ?_
                          rintro e w6 ⟨rfl, hb6⟩
                          have Hb7 := Lib.hid (Hb.out.trans (hb6.mono Hb.out.size)); clear hb6
                          go_wp2
                          go_ret3
                          exact ⟨bldRes_bad He.out, Hb7.out⟩
                        | none =>
                          rw [hc] at hC Hbe2
                          simp only [errOf, errCode, errAt] at hC
                          have He := Lib.hid (show bldErr vs l ix = none from Hbe2.out)
                          clear hc
                          go_wp2_with fail
                          refine hC.out.mono ?_
                          rintro e w6 ⟨rfl, hb6⟩
                          have Hb7 := Lib.hid (Hb.out.trans (hb6.mono Hb.out.size))
                          have HF6 := Lib.hid (HFr.out.below hb6); clear hb6
                          go_wp2
                          go_ret3
                          exact ⟨bldRes_good He.out HF6.out, Hb7.out⟩
                    · obtain ⟨g, cap, rfl, hgw, hgl, hgc, hgm⟩ := own_form ho.out (Nat.pos_of_ne_zero hz)
                      have HoY := Lib.hid ho.out
                      have hrow : ∃ C fr, w5.heap[g]? = some (.cells C 39 fr) := by
                        rcases HoY.out.2 with ⟨h, _⟩ | ⟨g', cap', cur, h, hg, hr, _⟩
                        · cases h
                        · cases h; exact ⟨_, _, hr⟩
                      obtain ⟨C, fr, hrow⟩ := hrow
                      have Hrow := Lib.hid hrow
                      have HY2 := Lib.hid (show ∀ i, i < d → EnSl w5 w.heap.size (Y i) (nthV vs i) from fun i hi => by
                        obtain ⟨-, y, m, c, hy, hE⟩ := HY.out i hi
                        rw [hy]
                        exact ⟨y, m, c, rfl, (entsT_old (hE w (Below.refl _ _))).steady (P := fun _ => True) (.of_below Hb5.out) trivial trivial⟩)
                      clear hrow hnil ho
                      go_wp2
                      go_loopw [14] (fun i wr => ∃ u : Nat, u ≤ t ∧ i = .int .i64 u ∧ Hid (∃ X, BldM w5 wr w.heap.size g d cap Y (fun i => itB l ix i u) X)) (fun i _ => t - (intOf i).toNat)
                      case atStart => exact ⟨0, by omega, rfl, ⟨_, bldM_start HoY.out⟩⟩
                      case round =>
                        obtain ⟨u, hu, rfl, hx⟩ := hrel
                        obtain ⟨X, hB⟩ := hx.out
                        have HB := Lib.hid hB
                        have hbw : Below w.heap.size w wr := Hb5.out.trans (hB.kept.toBelow (fun b hb => ⟨by have := Hb5.out.size; omega, by omega⟩) Hb5.out.size)
                        have Hb := Lib.hid hbw
                        clear hx hB hbw
                        by_cases hut : u < t
                        · obtain ⟨bl, ol, rfl⟩ := HI.out.some (by omega)
                          obtain ⟨bz, oz, rfl⟩ := HZ.out.some (by have := Hlz.out; omega)
                          obtain ⟨j, hjn, hj⟩ := Hix.out u hut
                          have hun : u < ni := by have := Hlz.out; omega
                          have HQ := Lib.hid (fun W (h : Below w.heap.size w W) => And.intro (HI.out.at hut W h) (HZ.out.at hun W h))
                          rw [hj] at HQ
                          have Hst1 := Lib.hid (show itB l ix j (u + 1) = itB l ix j u ++ [nthI l u] from by rw [itB, hj, if_pos rfl])
                          have Hst2 := Lib.hid (show ∀ i, i ≠ j → itB l ix i (u + 1) = itB l ix i u from fun i hi => by rw [itB, hj, if_neg (by omega), List.append_nil])
                          have Hil := Lib.hid (itB_len l ix j u)
                          have h0 : (0 : Int) ≤ u := by omega
                          have h04 : (u : Int) < (t : Int) := by omega
                          have h05 : (u : Int) < (ni : Int) := by omega
                          have h0j : (0 : Int) ≤ j := by omega
                          have h04j : (j : Int) < (d : Int) := by omega
                          generalize nthI l u = s at *
                          obtain ⟨sx, sy⟩ := s
                          simp only at HQ Hst1
                          obtain ⟨⟨q1, q2⟩, z1⟩ := HQ.out wr Hb.out
                          have hqa : ∀ o, (wr.alloc o).cell? ⟨bl, ol + u * 2, none⟩ = some (.int .u64 ((sx : Nat) : Int)) ∧ (wr.alloc o).cell? ⟨bl, ol + u * 2 + 1, none⟩ = some (.int .u64 ((sy : Nat) : Int)) ∧ (wr.alloc o).cell? ⟨bz, oz + u, none⟩ = some (.int .i64 (j : Int)) := fun o => by
                            obtain ⟨⟨a1, a2⟩, a3⟩ := HQ.out (wr.alloc o) (Hb.out.alloc Hb.out.size _)
                            exact ⟨a1, a2, a3⟩
                          have qa1 := fun o => (hqa o).1
                          have qa2 := fun o => (hqa o).2.1
                          have qa3 := fun o => (hqa o).2.2
                          obtain ⟨y1, -⟩ := HB.out.cells hjn
                          have y2 := own_frozen HB.out.row (j * 2)
                          have HXo := Lib.hid (HB.out.its j hjn)
                          have hz5 : w5.heap.size ≤ wr.heap.size := HB.out.kept.size
                          have hgA : g < wr.heap.size := Nat.lt_of_lt_of_le hgl hz5
                          have y3 : ∀ o, (wr.alloc o).cell? ⟨g, j * 2, none⟩ = some (X j) := fun o => (World.cell?_alloc_lt _ _ ⟨g, j * 2, none⟩ hgA).trans y1
                          have hXl : ∀ b, (X j).ownBlock = some b → w.heap.size ≤ b := fun b hb => Nat.le_trans Hb5.out.size (HXo.out.lt b hb).1
                          clear hqa
                          go_wp2_with fail
                          go_region_law (refine step_append_iv_at rfl (.tmp 142) (.tmp 147) rfl rfl w5.heap.size _ _ (itB l ix j u) rfl (own_below HXo.out (by first | exact (Below.refl _ _).alloc (Nat.le_refl _) _ | exact ((Below.refl _ _).drew).alloc (by simp) _ | exact ((Below.refl _ _).alloc (Nat.le_refl _) _).drew | exact (below_drewN' (Below.refl _ _) _).alloc (by simp) _)) _ _ (sx, sy) rfl (rd_block (heap_at_new _ _ _ (by simp)) rfl rfl) (by have := Hil.out; omega) (by first | omega | (simp; omega)) ?_; intro v' w7 ho7 hg7 hv7; obtain ⟨gv', cv', rfl, -⟩ := own_form ho7 (Nat.succ_pos _); obtain ⟨z0, z2⟩ := bldM_mid HB.out (by first | exact (Below.refl _ _).alloc (Nat.le_refl _) _ | exact ((Below.refl _ _).drew).alloc (by simp) _ | exact ((Below.refl _ _).alloc (Nat.le_refl _) _).drew | exact (below_drewN' (Below.refl _ _) _).alloc (by simp) _) hjn hgl hg7; have z3 := (HQ.out w7 (Below.grown (B := w.heap.size) (Hb.out.trans (Below.mono (by first | exact (Below.refl _ _).alloc (Nat.le_refl _) _ | exact ((Below.refl _ _).drew).alloc (by simp) _ | exact ((Below.refl _ _).alloc (Nat.le_refl _) _).drew | exact (below_drewN' (Below.refl _ _) _).alloc (by simp) _) Hb.out.size)) hg7 (by have := Hb.out.size; first | omega | (simp; omega)) hXl)).2)
                          all_goals go_wp2
                          all_goals
                            go_roundw
                            case rel => exact ⟨u + 1, by omega, by go_num, ⟨_, (HB.out.below (by first | exact (Below.refl _ _).alloc (Nat.le_refl _) _ | exact ((Below.refl _ _).drew).alloc (by simp) _ | exact ((Below.refl _ _).alloc (Nat.le_refl _) _).drew | exact (below_drewN' (Below.refl _ _) _).alloc (by simp) _)).step (l := itB l ix j u ++ [(sx, sy)]) hjn hgl (by rw [List.length_append]; exact ho7) hg7 hv7 Hst1.out Hst2.out⟩⟩
                            case measure => simp [intOf]; omega
                        · obtain rfl : u = t := by omega
                          have HFr := Lib.hid (HB.out.frags (ib := w.heap.size) hgw hgw (k := bldK vs l ix) (by unfold bldK; rw [bld_len]; exact Hvl.out) (fun i hi => by
                            unfold bldK
                            rw [bld_at (by rw [Hvl.out]; exact hi), Hll.out]) (fun i hi s hs => HI.out.lt s (itB_mem (by rw [Hll.out]; exact Nat.le_refl _) hs)) (fun i hi => by
                            unfold bldK
                            rw [bld_at (by rw [Hvl.out]; exact hi)]
                            exact HY2.out i hi) Hrow.out)
                          have hC := Lib.hid (refCheck13_any _ _ _ _ wr HFr.out (fun f hf => HF.out _ (bld_vec hf)) (fun f hf => by
                            unfold bldK bldTo at hf
                            obtain ⟨i, hi, rfl⟩ := List.mem_map.1 hf
                            have := itB_len l ix i l.length
                            rw [Hll.out] at this
                            simp only
                            rw [Hll.out]
                            omega))
                          cases hc : ckC (bldK vs l ix) with
                          | some p =>
                            obtain ⟨cd, i⟩ := p
                            have hne : ((cd : Int) != 0) = true := by
                              rw [bne_iff_ne]
                              have h1 : cd ≠ 0 := ckC_code hc
                              omega
                            rw [hc] at hC Hbe2
                            simp only [errOf, errCode, errAt] at hC
                            have He := Lib.hid (show bldErr vs l ix = some ((cd : Int), some (i : Int)) from Hbe2.out)
                            clear hc
                            go_wp2_with fail
                            refine hC.out.mono ?_
                            rintro e w6 ⟨rfl, hb6⟩
                            have Hb7 := Lib.hid (Hb.out.trans (hb6.mono Hb.out.size)); clear hb6
                            go_wp2
                            go_ret3
                            exact ⟨bldRes_bad He.out, Hb7.out⟩
                          | none =>
                            rw [hc] at hC Hbe2
                            simp only [errOf, errCode, errAt] at hC
                            have He := Lib.hid (show bldErr vs l ix = none from Hbe2.out)
                            clear hc
                            go_wp2_with fail
                            refine hC.out.mono ?_
                            rintro e w6 ⟨rfl, hb6⟩
                            have Hb7 := Lib.hid (Hb.out.trans (hb6.mono Hb.out.size))
                            have HF6 := Lib.hid (HFr.out.below hb6); clear hb6
                            go_wp2
                            go_ret3
                            exact ⟨bldRes_good He.out HF6.out, Hb7.out⟩
  · have hne2 : l.length ≠ ix.length := by rw [Hll.out, Hzl.out]; exact hne
    have Hr := Lib.hid (show bldErr vs l ix = some (8, some (-1)) from by
      have := Hbe.out
      rw [segErr_ne hne2] at this
      exact this)
    have hb1 : ((nl : Int) != (ni : Int)) = true := by rw [bne_iff_ne]; omega
    clear hne hne2 hI Hbe
    go_enter Tryz.func29, Tryz.ntmps29
    go_wp2
    go_ret3
    exact ⟨bldRes_bad Hr.out, Below.refl _ _⟩

end Go.Proofs.YtkkdlgcfcbaibaaGreatDoor
