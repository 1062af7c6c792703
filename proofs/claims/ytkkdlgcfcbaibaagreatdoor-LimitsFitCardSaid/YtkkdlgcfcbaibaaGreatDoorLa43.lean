/- Walks and laws, joined: La43. -/
import Derived.Test.YtkkdlgcfcbaibaaGreatDoorLa27
set_option linter.unusedVariables false
namespace Go.Proofs.YtkkdlgcfcbaibaaGreatDoor
section
open Go.RowKit
set_option maxRecDepth 20000 in
set_option maxHeartbeats 8000000 in
theorem refSegments13_any (a : Option Addr) (n cap : Nat) (k : Kno) (w : World) (hE : Frags w a n cap k) (hS : isum k ≤ 1000) (hn : n ≤ 1000) :
 Calls Tryz.prog 13 #[.slice a n cap] w fun x w' => (∃ v u, x = .returned (.tuple #[v, u]) ∧ Own2 w' w.heap.size (segK k) v u) ∧ Below w.heap.size w w' := by
 have HE := Lib.hid hE
 have Hl := Lib.hid hE.len
 have HS := Lib.hid (fun d (hd : d ≤ k.length) => show (segTo k d).length ≤ 1000 from by rw [segTo_len k d hd]; exact Nat.le_trans (isum_take k d) hS)
 have Hone := Lib.hid (fun f (hf : f ∈ k) => Nat.le_trans (isum_mem hf) hS)
 have HLt := Lib.hid (show ∀ d, d < k.length → ∀ e, ∀ s ∈ segI (segF (segTo k d) ((nthF k d).1.take e) d), s.1 < 18446744073709551616 ∧ s.2 < 18446744073709551616 from fun d hd e s hs => by
  obtain ⟨h1, -, h3⟩ := segTo_ok k d (Nat.le_of_lt hd)
  rcases segF_mem h1 hs with h | h
  · obtain ⟨p, hp, rfl⟩ := List.mem_map.1 h
    exact (hE.all _ (nthF_mem (Nat.lt_trans (h3 p hp).1 hd))).1 _ (h3 p hp).2
  · exact (hE.all _ (nthF_mem hd)).1 _ (List.mem_of_mem_take h))
 clear hE hS
 go_enter Tryz.func13, Tryz.ntmps13
 go_wp2
 go_loopw [4, 5, 6, 7, 8] (fun v u i _ _ wr => ∃ d : Nat, d ≤ n ∧ i = .int .i64 d ∧ Below w.heap.size w wr ∧ Hid (Own2 wr w.heap.size (segTo k d) v u)) (fun _ _ i _ _ _ => n - (intOf i).toNat)
 case atStart => exact ⟨0, by omega, rfl, Below.refl _ _, own2_nil _ _⟩
 case round =>
  obtain ⟨d, hd, rfl, hb, ho⟩ := hrel
  have Hb := Lib.hid hb; clear hb
  by_cases hdn : d < n
  · have hdk : d < k.length := by rw [Hl.out]; exact hdn
    obtain ⟨bb, oo, rfl⟩ := HE.out.some (by omega)
    obtain ⟨x, m, c, y, m', c', hq⟩ := HE.out.fix hdn
    have Hq := Lib.hid hq
    have h0 : (0 : Int) ≤ d := by omega
    have h04 : (d : Int) < (n : Int) := by omega
    have Hfl := Lib.hid (Hone.out _ (nthF_mem hdk))
    have HSd := Lib.hid (HS.out d (Nat.le_of_lt hdk))
    have HLd := Lib.hid (HLt.out d hdk)
    have HSd1 := Lib.hid (HS.out (d + 1) hdk)
    have Hst := Lib.hid (show segTo k (d + 1) = segF (segTo k d) (nthF k d).1 d from rfl)
    have hml := (hq wr Hb.out).2.1.len
    have Hml := Lib.hid hml
    have hm1 : m ≤ 1000 := by have := Hfl.out; omega
    clear hq hml HS HLt Hone
    generalize segTo k d = L0 at *
    generalize nthF k d = f at *
    obtain ⟨fi, fv⟩ := f
    simp only at Hst Hml Hq Hfl HLd
    obtain ⟨wo, hwo⟩ : ∃ wo : World, wo = wr := ⟨_, rfl⟩
    rw [← hwo] at Hb ho ⊢
    clear hwo
    go_wp2
    go_loopw [4, 5, 7, 8] (fun v u j _ wq => ∃ e : Nat, e ≤ m ∧ j = .int .i64 e ∧ Below w.heap.size w wq ∧ Hid (Own2 wq w.heap.size (segF L0 (fi.take e) d) v u)) (fun _ _ j _ _ => m - (intOf j).toNat)
    case atStart => exact ⟨0, by omega, rfl, Hb.out, ho⟩
    case round =>
     obtain ⟨e, he, rfl, hbq, hoq⟩ := hrel
     have Hbq := Lib.hid hbq
     obtain ⟨qq, h1q, -, -⟩ := Hq.out wr hbq
     clear hbq ho Hb
     have he0 : (0 : Int) ≤ e := by omega
     by_cases hem : e < m
     · have hel : e < fi.length := by rw [Hml.out]; exact hem
       have Hs := Lib.hid (segF_succ (L := L0) (i := d) hel)
       obtain ⟨bi, oi, rfl, -⟩ := h1q.cells (by omega)
       have Hc := Lib.hid (show ∀ w', Below w.heap.size w w' → w'.cell? ⟨bb, oo + d * 2, none⟩ = some (.slice (some ⟨bi, oi, none⟩) m c) ∧ w'.cell? ⟨bi, oi + e * 2, none⟩ = some (.int .u64 (((nthI fi e).1 : Nat) : Int)) ∧ w'.cell? ⟨bi, oi + e * 2 + 1, none⟩ = some (.int .u64 (((nthI fi e).2 : Nat) : Int)) from fun w' h => by
        obtain ⟨h1, h2, -⟩ := Hq.out w' h
        obtain ⟨b', o', e', hc⟩ := h2.cells (by omega)
        cases e'
        exact ⟨h1, (hc e hem).1, (hc e hem).2⟩)
       have hLl : (segF L0 (fi.take e) d).length ≤ 1000 := by
        have h1 := HSd1.out
        rw [Hst.out, segF_len] at h1
        rw [segF_len, List.length_take]
        omega
       have HLe := Lib.hid (HLd.out e)
       have hem' : (e : Int) < (m : Int) := by omega
       clear h1q HLd
       generalize segF L0 (fi.take e) d = L at *
       generalize nthI fi e = s at *
       obtain ⟨sx, sy⟩ := s
       simp only at Hc
       obtain ⟨wq, hwq⟩ : ∃ wq : World, wq = wr := ⟨_, rfl⟩
       rw [← hwq] at Hbq hoq qq ⊢
       clear hwq
       by_cases hLe : L = []
       · obtain ⟨rfl, rfl⟩ := hoq.out.nil hLe
         subst hLe
         go_wp2
         go_loopw [8] (fun t wi => t = .int .i64 0 ∧ Below wq.heap.size wq wi) (fun t _ => 0)
         case atStart => exact ⟨rfl, Below.refl _ _⟩
         case round =>
          obtain ⟨rfl, hbi⟩ := hrel
          have Hbi := Lib.hid hbi; clear hbi
          have Hwi := Lib.hid (Hbq.out.trans (Hbi.out.mono Hbq.out.size))
          go_wp2
          go_quiet (fail)
          go_wp2
          have hzw : w.heap.size ≤ wr.heap.size := Hwi.out.size
          have zz1 : ∀ w', Below wr.heap.size wr w' → w'.cell? ⟨bb, oo + d * 2, none⟩ = some (.slice (some ⟨bi, oi, none⟩) m c) := fun w' h => (Hc.out w' (Hwi.out.trans (h.mono Hwi.out.size))).1
          have zz2 : ∀ w', Below wr.heap.size wr w' → w'.cell? ⟨bi, oi + e * 2, none⟩ = some (.int .u64 ((sx : Nat) : Int)) := fun w' h => (Hc.out w' (Hwi.out.trans (h.mono Hwi.out.size))).2.1
          have zz3 : ∀ w', Below wr.heap.size wr w' → w'.cell? ⟨bi, oi + e * 2 + 1, none⟩ = some (.int .u64 ((sy : Nat) : Int)) := fun w' h => (Hc.out w' (Hwi.out.trans (h.mono Hwi.out.size))).2.2
          go_region_held3 (fun w' => Below wr.heap.size wr w') (first | assumption | exact Below.refl _ _ | exact (Below.refl _ _).drew | exact below_drewN' (Below.refl _ _) _ | exact (below_drewN' (Below.refl _ _) _).drew | exact Below.drew (by assumption) | exact Below.alloc (by assumption) (Below.size (by assumption)) _) (first
           | ((refine step_append_iv rfl (.tmp 48) (.tmp 51) rfl rfl wr.heap.size _ 0 [] rfl (own_empty (by first | exact heap_at_new _ _ _ (by simp) | exact heap_at_old _ _ _ _ (heap_at_new _ _ _ (by simp))) (by first | omega | (simp <;> omega))) _ 0 _ [] rfl (rd_none _ _) (by first | omega | (simp <;> omega)) (by first | omega | (simp <;> omega)) ?_)
              intro v1 w5 ho1 hg1
              have hS1 : Below wr.heap.size wr w5 := by
               refine Below.grown (B := wr.heap.size) (by assumption) hg1 (by first | omega | (simp <;> omega)) ?_
               intro j hj
               simp [Value.ownBlock, Act.eval] at hj
               omega)
           | ((refine step_append_iv rfl (.tmp 52) (.tmp 61) rfl rfl wr.heap.size _ _ _ rfl (by first | exact ho1 | exact ho1.alloc _ | exact own_below ho1 ((Below.refl _ _).alloc (Nat.le_refl _) _)) _ 1 1 [(sx, sy)] rfl (by first | exact rd_block (heap_at_new _ _ _ (by simp)) rfl rfl | exact rd_grown hg1 (rd_block (by first | exact heap_at_new _ _ _ (by simp) | exact heap_at_old _ _ _ _ (heap_at_new _ _ _ (by simp))) rfl rfl) (by simp [Value.ownBlock, Act.eval]) (by first | omega | (simp <;> omega))) (by first | omega | (simp <;> omega)) (by have := hS1.size; simp <;> omega) ?_)
              intro v2 w6 ho2 hg2
              have hS2 : Below wr.heap.size wr w6 := by
               refine Below.grown (B := wr.heap.size) (by assumption) hg2 ?_ (fun j hj => (ho1.lt j hj).1)
               have := hS1.size
               simp <;> omega)
           | ((refine step_append_iv rfl (.tmp 62) (.tmp 65) rfl rfl wr.heap.size _ _ _ rfl ho2 _ 0 _ [] rfl (rd_none _ _) (by first | omega | (simp <;> omega)) (by have := hS2.size; simp <;> omega) ?_)
              intro v3 w7 ho3 hg3
              have hS3 : Below wr.heap.size wr w7 := by
               refine Below.grown (B := wr.heap.size) (by assumption) hg3 ?_ (fun j hj => (ho2.lt j hj).1)
               have := hS2.size
               simp <;> omega))
          all_goals
           have hS3' := hS3.size
           go_wp2_with fail
           go_region_held3 (fun w' => Below w7.heap.size w7 w') (first | assumption | exact Below.refl _ _ | exact (Below.refl _ _).drew | exact below_drewN' (Below.refl _ _) _ | exact (below_drewN' (Below.refl _ _) _).drew | exact Below.drew (by assumption) | exact Below.alloc (by assumption) (Below.size (by assumption)) _) (first
            | ((refine step_append_i64 rfl (.tmp 67) (.tmp 70) rfl rfl w7.heap.size _ 0 [] rfl (own_empty (by first | exact heap_at_new _ _ _ (by simp) | exact heap_at_old _ _ _ _ (heap_at_new _ _ _ (by simp))) (by first | omega | (simp <;> omega))) _ 0 _ [] rfl (rd_none _ _) (by first | omega | (simp <;> omega)) (by first | omega | (simp <;> omega)) ?_)
               intro v1u w5u ho1u hg1u
               have hS1u : Below w7.heap.size w7 w5u := by
                refine Below.grown (B := w7.heap.size) (by assumption) hg1u (by first | omega | (simp <;> omega)) ?_
                intro j hj
                simp [Value.ownBlock, Act.eval] at hj
                omega)
            | ((refine step_append_i64 rfl (.tmp 71) (.tmp 73) rfl rfl w7.heap.size _ _ _ rfl (by first | exact ho1u | exact ho1u.alloc _ | exact own_below ho1u ((Below.refl _ _).alloc (Nat.le_refl _) _)) _ 1 1 [d] rfl (by first | exact rd_block (heap_at_new _ _ _ (by simp)) rfl rfl | exact rd_grown hg1u (rd_block (by first | exact heap_at_new _ _ _ (by simp) | exact heap_at_old _ _ _ _ (heap_at_new _ _ _ (by simp))) rfl rfl) (by simp [Value.ownBlock, Act.eval]) (by first | omega | (simp <;> omega))) (by first | omega | (simp <;> omega)) (by have := hS1u.size; simp <;> omega) ?_)
               intro v2u w6u ho2u hg2u
               have hS2u : Below w7.heap.size w7 w6u := by
                refine Below.grown (B := w7.heap.size) (by assumption) hg2u ?_ (fun j hj => (ho1u.lt j hj).1)
                have := hS1u.size
                simp <;> omega)
            | ((refine step_append_i64 rfl (.tmp 74) (.tmp 77) rfl rfl w7.heap.size _ _ _ rfl ho2u _ 0 _ [] rfl (rd_none _ _) (by first | omega | (simp <;> omega)) (by have := hS2u.size; simp <;> omega) ?_)
               intro v3u w7u ho3u hg3u
               have hS3u : Below w7.heap.size w7 w7u := by
                refine Below.grown (B := w7.heap.size) (by assumption) hg3u ?_ (fun j hj => (ho2u.lt j hj).1)
                have := hS2u.size
                simp <;> omega))
           all_goals go_wp2
           all_goals
            go_roundw
            case rel => exact ⟨e + 1, by omega, by go_num, Hwi.out.trans ((hS3.trans (hS3u.mono hS3.size)).mono Hwi.out.size), by
             rw [Hs.out]
             refine ⟨own_mono (own_below ho3 hS3u) hzw, own_mono ho3u (Nat.le_trans hzw hS3.size), fun h => by cases h⟩⟩
            case measure => simp [intOf]; omega
       · have hLp : 0 < L.length := List.length_pos_iff.2 hLe
         clear hLe
         obtain ⟨gv, cv, rfl, hgv, hgvl, hncv, hcmv⟩ := own_form hoq.out.ivs hLp
         obtain ⟨gu, cu, rfl, hgu, hgul, hncu, hcmu⟩ := own_form hoq.out.idx hLp
         obtain ⟨av, cv', hav, hIv⟩ := ivs_own hoq.out.ivs HLe.out
         cases hav
         have HIv := Lib.hid hIv; clear hIv
         go_wp2
         go_loopw [8] (fun t wi => ∃ p : Nat, p ≤ L.length ∧ t = .int .i64 p ∧ Below wq.heap.size wq wi ∧ Hid (∀ i, i < p → (nthI (segI L) i).1 < sx)) (fun t _ => L.length - (intOf t).toNat)
         case atStart => exact ⟨0, by omega, rfl, Below.refl _ _, fun i h => by omega⟩
         case round =>
          obtain ⟨p, hp, rfl, hbi, ht⟩ := hrel
          have Hbi := Lib.hid hbi; clear hbi
          have Hwi := Lib.hid (Hbq.out.trans (Hbi.out.mono Hbq.out.size))
          have hp0 : (0 : Int) ≤ p := by omega
          by_cases hpL : p < L.length
          · have hpL' : (p : Int) < (L.length : Int) := by omega
            obtain ⟨bv, ov, hbv, hcv⟩ := (HIv.out.below Hbi.out).cells (by omega)
            cases hbv
            obtain ⟨l1, -⟩ := hcv p hpL
            rw [Nat.zero_add] at l1
            obtain ⟨z1, z2, -⟩ := Hc.out wr Hwi.out
            clear hcv
            by_cases hlt : (nthI (segI L) p).1 < sx
            · have hd1 : decide (((nthI (segI L) p).1 : Int) < (sx : Int)) = true := by rw [decide_eq_true_iff]; omega
              have hd2 : decide ((nthI (segI L) p).1 < sx) = true := by rw [decide_eq_true_iff]; exact hlt
              have Hs2 := Lib.hid (all_step (p := fun i => (nthI (segI L) i).1 < sx) ht.out hlt)
              generalize (nthI (segI L) p).1 = lx at *
              clear hlt
              go_wp2
              go_quiet (fail)
              go_wp2
              go_roundw
              case rel => exact ⟨p + 1, by omega, by go_num, by first | exact Hbi.out | exact below_drewN' Hbi.out _, Hs2.out⟩
              case measure => simp [intOf]; omega
            · have hd1 : decide (((nthI (segI L) p).1 : Int) < (sx : Int)) = false := by rw [decide_eq_false_iff_not]; omega
              have hd2 : decide ((nthI (segI L) p).1 < sx) = false := by rw [decide_eq_false_iff_not]; exact hlt
              have Hpos := Lib.hid (posS_at ht.out hp (fun _ => hlt))
              generalize (nthI (segI L) p).1 = lx at *
              clear hlt
              go_wp2
              go_quiet (fail)
              go_wp2
              have hzw : w.heap.size ≤ wr.heap.size := Hwi.out.size
              have zz1 : ∀ w', Below wr.heap.size wr w' → w'.cell? ⟨bb, oo + d * 2, none⟩ = some (.slice (some ⟨bi, oi, none⟩) m c) := fun w' h => (Hc.out w' (Hwi.out.trans (h.mono Hwi.out.size))).1
              have zz2 : ∀ w', Below wr.heap.size wr w' → w'.cell? ⟨bi, oi + e * 2, none⟩ = some (.int .u64 ((sx : Nat) : Int)) := fun w' h => (Hc.out w' (Hwi.out.trans (h.mono Hwi.out.size))).2.1
              have zz3 : ∀ w', Below wr.heap.size wr w' → w'.cell? ⟨bi, oi + e * 2 + 1, none⟩ = some (.int .u64 ((sy : Nat) : Int)) := fun w' h => (Hc.out w' (Hwi.out.trans (h.mono Hwi.out.size))).2.2
              have hpc : p ≤ cv := by omega
              have hpu : p ≤ cu := by omega
              have hor := hoq.out.below Hbi.out
              have Hhd := Lib.hid (show ∀ w', Below wr.heap.size wr w' → Rd w' 2 (some ⟨gv, 0, none⟩) p (ivC ((segI L).take p)) from fun w' h => by
               have := own_take (own_below hor.ivs h) p hp
               rw [ivC_take] at this
               exact Rd.own this)
              have Htl := Lib.hid (show ∀ w', Below wr.heap.size wr w' → Rd w' 2 (if cv = p then some ⟨gv, 0, none⟩ else some ⟨gv, p * 2, none⟩) (L.length - p) (ivC ((segI L).drop p)) from fun w' h => by
               have h1 := (own_drop_gen hor.ivs p hp).below h
               rw [ivC_drop] at h1
               split
               · exact ⟨h1.1, fun h0 => by omega⟩
               · exact h1)
              have Hou := Lib.hid (show ∀ w', Below wr.heap.size wr w' → w'.ownsRow w.heap.size 3 1 (.slice (some ⟨gu, 0, none⟩) L.length cu) L.length (i64C (segX L)) from fun w' h => own_below hor.idx h)
              clear hor
              go_region_held3 (fun w' => Below wr.heap.size wr w') (first | assumption | exact Below.refl _ _ | exact (Below.refl _ _).drew | exact below_drewN' (Below.refl _ _) _ | exact (below_drewN' (Below.refl _ _) _).drew | exact Below.drew (by assumption) | exact Below.alloc (by assumption) (Below.size (by assumption)) _) (first
               | ((refine step_append_iv rfl (.tmp 48) (.tmp 51) rfl rfl wr.heap.size _ 0 [] rfl (own_empty (by first | exact heap_at_new _ _ _ (by simp) | exact heap_at_old _ _ _ _ (heap_at_new _ _ _ (by simp))) (by first | omega | (simp <;> omega))) _ p _ ((segI L).take p) rfl (Hhd.out _ (by assumption)) (by first | omega | (simp <;> omega)) (by first | omega | (simp <;> omega)) ?_)
                  intro v1 w5 ho1 hg1
                  have hS1 : Below wr.heap.size wr w5 := by
                   refine Below.grown (B := wr.heap.size) (by assumption) hg1 (by first | omega | (simp <;> omega)) ?_
                   intro j hj
                   simp [Value.ownBlock, Act.eval] at hj
                   omega)
               | ((refine step_append_iv rfl (.tmp 52) (.tmp 61) rfl rfl wr.heap.size _ _ _ rfl (by first | exact ho1 | exact ho1.alloc _ | exact own_below ho1 ((Below.refl _ _).alloc (Nat.le_refl _) _)) _ 1 1 [(sx, sy)] rfl (by first | exact rd_block (heap_at_new _ _ _ (by simp)) rfl rfl | exact rd_grown hg1 (rd_block (by first | exact heap_at_new _ _ _ (by simp) | exact heap_at_old _ _ _ _ (heap_at_new _ _ _ (by simp))) rfl rfl) (by simp [Value.ownBlock, Act.eval]) (by first | omega | (simp <;> omega))) (by first | omega | (simp <;> omega)) (by have := hS1.size; simp <;> omega) ?_)
                  intro v2 w6 ho2 hg2
                  have hS2 : Below wr.heap.size wr w6 := by
                   refine Below.grown (B := wr.heap.size) (by assumption) hg2 ?_ (fun j hj => (ho1.lt j hj).1)
                   have := hS1.size
                   simp <;> omega)
               | ((refine step_append_iv rfl (.tmp 62) (.tmp 65) rfl rfl wr.heap.size _ _ _ rfl ho2 _ (L.length - p) _ ((segI L).drop p) rfl (Htl.out _ (by assumption)) (by first | omega | (simp <;> omega)) (by have := hS2.size; simp <;> omega) ?_)
                  intro v3 w7 ho3 hg3
                  have hS3 : Below wr.heap.size wr w7 := by
                   refine Below.grown (B := wr.heap.size) (by assumption) hg3 ?_ (fun j hj => (ho2.lt j hj).1)
                   have := hS2.size
                   simp <;> omega))
              all_goals
               have hS3' := hS3.size
               have hou := Hou.out _ hS3
               clear Hhd Htl Hou zz1 zz2 zz3 hg1 hg2 hg3 ho1 ho2 hS1 hS2
               have Hhd := Lib.hid (show ∀ w', Below w7.heap.size w7 w' → Rd w' 1 (some ⟨gu, 0, none⟩) p (i64C ((segX L).take p)) from fun w' h => by
                have := own_take (own_below hou h) p hp
                rw [Nat.mul_one, i64C_take] at this
                exact Rd.own this)
               have Htl := Lib.hid (show ∀ w', Below w7.heap.size w7 w' → Rd w' 1 (if cu = p then some ⟨gu, 0, none⟩ else some ⟨gu, p, none⟩) (L.length - p) (i64C ((segX L).drop p)) from fun w' h => by
                have h1 := (own_drop_gen hou p hp).below h
                rw [Nat.mul_one, i64C_drop] at h1
                split
                · exact ⟨h1.1, fun h0 => by omega⟩
                · exact h1)
               clear hou
               go_wp2_with fail
               go_region_held3 (fun w' => Below w7.heap.size w7 w') (first | assumption | exact Below.refl _ _ | exact (Below.refl _ _).drew | exact below_drewN' (Below.refl _ _) _ | exact (below_drewN' (Below.refl _ _) _).drew | exact Below.drew (by assumption) | exact Below.alloc (by assumption) (Below.size (by assumption)) _) (first
                | ((refine step_append_i64 rfl (.tmp 67) (.tmp 70) rfl rfl w7.heap.size _ 0 [] rfl (own_empty (by first | exact heap_at_new _ _ _ (by simp) | exact heap_at_old _ _ _ _ (heap_at_new _ _ _ (by simp))) (by first | omega | (simp <;> omega))) _ p _ ((segX L).take p) rfl (Hhd.out _ (by assumption)) (by first | omega | (simp <;> omega)) (by first | omega | (simp <;> omega)) ?_)
                   intro v1u w5u ho1u hg1u
                   have hS1u : Below w7.heap.size w7 w5u := by
                    refine Below.grown (B := w7.heap.size) (by assumption) hg1u (by first | omega | (simp <;> omega)) ?_
                    intro j hj
                    simp [Value.ownBlock, Act.eval] at hj
                    omega)
                | ((refine step_append_i64 rfl (.tmp 71) (.tmp 73) rfl rfl w7.heap.size _ _ _ rfl (by first | exact ho1u | exact ho1u.alloc _ | exact own_below ho1u ((Below.refl _ _).alloc (Nat.le_refl _) _)) _ 1 1 [d] rfl (by first | exact rd_block (heap_at_new _ _ _ (by simp)) rfl rfl | exact rd_grown hg1u (rd_block (by first | exact heap_at_new _ _ _ (by simp) | exact heap_at_old _ _ _ _ (heap_at_new _ _ _ (by simp))) rfl rfl) (by simp [Value.ownBlock, Act.eval]) (by first | omega | (simp <;> omega))) (by first | omega | (simp <;> omega)) (by have := hS1u.size; simp <;> omega) ?_)
                   intro v2u w6u ho2u hg2u
                   have hS2u : Below w7.heap.size w7 w6u := by
                    refine Below.grown (B := w7.heap.size) (by assumption) hg2u ?_ (fun j hj => (ho1u.lt j hj).1)
                    have := hS1u.size
                    simp <;> omega)
                | ((refine step_append_i64 rfl (.tmp 74) (.tmp 77) rfl rfl w7.heap.size _ _ _ rfl ho2u _ (L.length - p) _ ((segX L).drop p) rfl (Htl.out _ (by assumption)) (by first | omega | (simp <;> omega)) (by have := hS2u.size; simp <;> omega) ?_)
                   intro v3u w7u ho3u hg3u
                   have hS3u : Below w7.heap.size w7 w7u := by
                    refine Below.grown (B := w7.heap.size) (by assumption) hg3u ?_ (fun j hj => (ho2u.lt j hj).1)
                    have := hS2u.size
                    simp <;> omega))
               all_goals go_wp2
               all_goals
                go_roundw
                case rel => exact ⟨e + 1, by omega, by go_num, Hwi.out.trans ((hS3.trans (hS3u.mono hS3.size)).mono Hwi.out.size), by
                 rw [Hs.out]
                 have e1 : 0 + p + 1 + (L.length - p) = (insS L (sx, sy) d).length := by rw [insS_len]; omega
                 have ho4 := own_mono (own_below ho3 hS3u) hzw
                 have ho4u := own_mono ho3u (Nat.le_trans hzw hS3.size)
                 rw [e1, List.nil_append] at ho4 ho4u
                 refine ⟨?_, ?_, fun h => by have := insS_len L (sx, sy) d; rw [h] at this; simp at this⟩
                 · rw [segI_ins, ← Hpos.out]; exact ho4
                 · rw [segX_ins, ← Hpos.out]; exact ho4u⟩
                case measure => simp [intOf]; omega
          · have Hpos := Lib.hid (posS_at ht.out hp (fun h => absurd h hpL))
            go_wp2
            go_quiet (fail)
            go_wp2
            have hzw : w.heap.size ≤ wr.heap.size := Hwi.out.size
            have zz1 : ∀ w', Below wr.heap.size wr w' → w'.cell? ⟨bb, oo + d * 2, none⟩ = some (.slice (some ⟨bi, oi, none⟩) m c) := fun w' h => (Hc.out w' (Hwi.out.trans (h.mono Hwi.out.size))).1
            have zz2 : ∀ w', Below wr.heap.size wr w' → w'.cell? ⟨bi, oi + e * 2, none⟩ = some (.int .u64 ((sx : Nat) : Int)) := fun w' h => (Hc.out w' (Hwi.out.trans (h.mono Hwi.out.size))).2.1
            have zz3 : ∀ w', Below wr.heap.size wr w' → w'.cell? ⟨bi, oi + e * 2 + 1, none⟩ = some (.int .u64 ((sy : Nat) : Int)) := fun w' h => (Hc.out w' (Hwi.out.trans (h.mono Hwi.out.size))).2.2
            have hpc : p ≤ cv := by omega
            have hpu : p ≤ cu := by omega
            have hor := hoq.out.below Hbi.out
            have Hhd := Lib.hid (show ∀ w', Below wr.heap.size wr w' → Rd w' 2 (some ⟨gv, 0, none⟩) p (ivC ((segI L).take p)) from fun w' h => by
             have := own_take (own_below hor.ivs h) p hp
             rw [ivC_take] at this
             exact Rd.own this)
            have Htl := Lib.hid (show ∀ w', Below wr.heap.size wr w' → Rd w' 2 (if cv = p then some ⟨gv, 0, none⟩ else some ⟨gv, p * 2, none⟩) (L.length - p) (ivC ((segI L).drop p)) from fun w' h => by
             have h1 := (own_drop_gen hor.ivs p hp).below h
             rw [ivC_drop] at h1
             split
             · exact ⟨h1.1, fun h0 => by omega⟩
             · exact h1)
            have Hou := Lib.hid (show ∀ w', Below wr.heap.size wr w' → w'.ownsRow w.heap.size 3 1 (.slice (some ⟨gu, 0, none⟩) L.length cu) L.length (i64C (segX L)) from fun w' h => own_below hor.idx h)
            clear hor
            go_region_held3 (fun w' => Below wr.heap.size wr w') (first | assumption | exact Below.refl _ _ | exact (Below.refl _ _).drew | exact below_drewN' (Below.refl _ _) _ | exact (below_drewN' (Below.refl _ _) _).drew | exact Below.drew (by assumption) | exact Below.alloc (by assumption) (Below.size (by assumption)) _) (first
             | ((refine step_append_iv rfl (.tmp 48) (.tmp 51) rfl rfl wr.heap.size _ 0 [] rfl (own_empty (by first | exact heap_at_new _ _ _ (by simp) | exact heap_at_old _ _ _ _ (heap_at_new _ _ _ (by simp))) (by first | omega | (simp <;> omega))) _ p _ ((segI L).take p) rfl (Hhd.out _ (by assumption)) (by first | omega | (simp <;> omega)) (by first | omega | (simp <;> omega)) ?_)
                intro v1 w5 ho1 hg1
                have hS1 : Below wr.heap.size wr w5 := by
                 refine Below.grown (B := wr.heap.size) (by assumption) hg1 (by first | omega | (simp <;> omega)) ?_
                 intro j hj
                 simp [Value.ownBlock, Act.eval] at hj
                 omega)
             | ((refine step_append_iv rfl (.tmp 52) (.tmp 61) rfl rfl wr.heap.size _ _ _ rfl (by first | exact ho1 | exact ho1.alloc _ | exact own_below ho1 ((Below.refl _ _).alloc (Nat.le_refl _) _)) _ 1 1 [(sx, sy)] rfl (by first | exact rd_block (heap_at_new _ _ _ (by simp)) rfl rfl | exact rd_grown hg1 (rd_block (by first | exact heap_at_new _ _ _ (by simp) | exact heap_at_old _ _ _ _ (heap_at_new _ _ _ (by simp))) rfl rfl) (by simp [Value.ownBlock, Act.eval]) (by first | omega | (simp <;> omega))) (by first | omega | (simp <;> omega)) (by have := hS1.size; simp <;> omega) ?_)
                intro v2 w6 ho2 hg2
                have hS2 : Below wr.heap.size wr w6 := by
                 refine Below.grown (B := wr.heap.size) (by assumption) hg2 ?_ (fun j hj => (ho1.lt j hj).1)
                 have := hS1.size
                 simp <;> omega)
             | ((refine step_append_iv rfl (.tmp 62) (.tmp 65) rfl rfl wr.heap.size _ _ _ rfl ho2 _ (L.length - p) _ ((segI L).drop p) rfl (Htl.out _ (by assumption)) (by first | omega | (simp <;> omega)) (by have := hS2.size; simp <;> omega) ?_)
                intro v3 w7 ho3 hg3
                have hS3 : Below wr.heap.size wr w7 := by
                 refine Below.grown (B := wr.heap.size) (by assumption) hg3 ?_ (fun j hj => (ho2.lt j hj).1)
                 have := hS2.size
                 simp <;> omega))
            all_goals
             have hS3' := hS3.size
             have hou := Hou.out _ hS3
             clear Hhd Htl Hou zz1 zz2 zz3 hg1 hg2 hg3 ho1 ho2 hS1 hS2
             have Hhd := Lib.hid (show ∀ w', Below w7.heap.size w7 w' → Rd w' 1 (some ⟨gu, 0, none⟩) p (i64C ((segX L).take p)) from fun w' h => by
              have := own_take (own_below hou h) p hp
              rw [Nat.mul_one, i64C_take] at this
              exact Rd.own this)
             have Htl := Lib.hid (show ∀ w', Below w7.heap.size w7 w' → Rd w' 1 (if cu = p then some ⟨gu, 0, none⟩ else some ⟨gu, p, none⟩) (L.length - p) (i64C ((segX L).drop p)) from fun w' h => by
              have h1 := (own_drop_gen hou p hp).below h
              rw [Nat.mul_one, i64C_drop] at h1
              split
              · exact ⟨h1.1, fun h0 => by omega⟩
              · exact h1)
             clear hou
             go_wp2_with fail
             all_goals
              go_region_held3 (fun w' => Below w7.heap.size w7 w') (first | assumption | exact Below.refl _ _ | exact (Below.refl _ _).drew | exact below_drewN' (Below.refl _ _) _ | exact (below_drewN' (Below.refl _ _) _).drew | exact Below.drew (by assumption) | exact Below.alloc (by assumption) (Below.size (by assumption)) _) (first
               | ((refine step_append_i64 rfl (.tmp 67) (.tmp 70) rfl rfl w7.heap.size _ 0 [] rfl (own_empty (by first | exact heap_at_new _ _ _ (by simp) | exact heap_at_old _ _ _ _ (heap_at_new _ _ _ (by simp))) (by first | omega | (simp <;> omega))) _ p _ ((segX L).take p) rfl (Hhd.out _ (by assumption)) (by first | omega | (simp <;> omega)) (by first | omega | (simp <;> omega)) ?_)
                  intro v1u w5u ho1u hg1u
                  have hS1u : Below w7.heap.size w7 w5u := by
                   refine Below.grown (B := w7.heap.size) (by assumption) hg1u (by first | omega | (simp <;> omega)) ?_
                   intro j hj
                   simp [Value.ownBlock, Act.eval] at hj
                   omega)
               | ((refine step_append_i64 rfl (.tmp 71) (.tmp 73) rfl rfl w7.heap.size _ _ _ rfl (by first | exact ho1u | exact ho1u.alloc _ | exact own_below ho1u ((Below.refl _ _).alloc (Nat.le_refl _) _)) _ 1 1 [d] rfl (by first | exact rd_block (heap_at_new _ _ _ (by simp)) rfl rfl | exact rd_grown hg1u (rd_block (by first | exact heap_at_new _ _ _ (by simp) | exact heap_at_old _ _ _ _ (heap_at_new _ _ _ (by simp))) rfl rfl) (by simp [Value.ownBlock, Act.eval]) (by first | omega | (simp <;> omega))) (by first | omega | (simp <;> omega)) (by have := hS1u.size; simp <;> omega) ?_)
                  intro v2u w6u ho2u hg2u
                  have hS2u : Below w7.heap.size w7 w6u := by
                   refine Below.grown (B := w7.heap.size) (by assumption) hg2u ?_ (fun j hj => (ho1u.lt j hj).1)
                   have := hS1u.size
                   simp <;> omega)
               | ((refine step_append_i64 rfl (.tmp 74) (.tmp 77) rfl rfl w7.heap.size _ _ _ rfl ho2u _ (L.length - p) _ ((segX L).drop p) rfl (Htl.out _ (by assumption)) (by first | omega | (simp <;> omega)) (by have := hS2u.size; simp <;> omega) ?_)
                  intro v3u w7u ho3u hg3u
                  have hS3u : Below w7.heap.size w7 w7u := by
                   refine Below.grown (B := w7.heap.size) (by assumption) hg3u ?_ (fun j hj => (ho2u.lt j hj).1)
                   have := hS2u.size
                   simp <;> omega))
             all_goals go_wp2
             all_goals
              go_roundw
              case rel => exact ⟨e + 1, by omega, by go_num, Hwi.out.trans ((hS3.trans (hS3u.mono hS3.size)).mono Hwi.out.size), by
               rw [Hs.out]
               have e1 : 0 + p + 1 + (L.length - p) = (insS L (sx, sy) d).length := by rw [insS_len]; omega
               have ho4 := own_mono (own_below ho3 hS3u) hzw
               have ho4u := own_mono ho3u (Nat.le_trans hzw hS3.size)
               rw [e1, List.nil_append] at ho4 ho4u
               refine ⟨?_, ?_, fun h => by have := insS_len L (sx, sy) d; rw [h] at this; simp at this⟩
               · rw [segI_ins, ← Hpos.out]; exact ho4
               · rw [segX_ins, ← Hpos.out]; exact ho4u⟩
              case measure => simp [intOf]; omega
     · obtain rfl : e = m := by omega
       have Ho := Lib.hid hoq.out
       rw [← Hml.out, List.take_length, ← Hst.out] at Ho
       go_wp2
       go_roundw
       case rel => exact ⟨d + 1, by omega, by go_num, Hbq.out, Ho.out⟩
       case measure => simp [intOf]; omega
  · obtain rfl : d = n := by omega
    have Ho := Lib.hid ho.out
    rw [← Hl.out] at Ho
    go_wp2
    go_ret2
    exact ⟨⟨_, _, rfl, Ho.out⟩, Hb.out⟩
end
end Go.Proofs.YtkkdlgcfcbaibaaGreatDoor
