/- Walks and laws, joined: La19. -/
import Derived.Test.YtkkdlgcfcbaibaaGreatDoorLa18
import Derived.Test.YtkkdlgcfcbaibaaGreatDoorLa12
import Derived.Test.YtkkdlgcfcbaibaaGreatDoorLa03
set_option linter.unusedVariables false
namespace Go.Proofs.YtkkdlgcfcbaibaaGreatDoor
section
open Go.RowKit
theorem refUnion5_any (aa ab : Option Addr) (na ca nb cb : Nat) (a b : List Iv) (w : World) (hIa : Ivs w aa na ca a) (hIb : Ivs w ab nb cb b) (hn : 2 * a.length + 2 * b.length + 1 ≤ 100000) :
 Calls Tryz.prog 143 #[.slice aa na ca, .slice ab nb cb] w fun e w' => OwnIv w.heap.size (opL gOr a b) e w' ∧ Below w.heap.size w w' := by
 have hC := Lib.hid (refDo_any aa ab na ca nb cb 0 a b w hIa hIb (by omega) hn)
 clear hIa hIb hn
 rw [show ((0 : Nat) : Int) = 0 from rfl] at hC
 go_enter Tryz.func143, Tryz.ntmps143
 go_wp2_with fail
 refine hC.out.mono ?_
 rintro e w1 ⟨⟨v, rfl, ho⟩, hb⟩
 have Ho := Lib.hid ho; have Hb := Lib.hid hb
 clear ho hb
 go_wp2
 go_ret
 exact ⟨⟨v, rfl, Ho.out⟩, Hb.out⟩
theorem below_set2 {B g i j : Nat} {w W : World} {x y : Value} (h : Below B w W) (hg : B ≤ g) : Below B w ((W.setCell ⟨g, i, none⟩ x).setCell ⟨g, j, none⟩ y) := (h.setCell hg _).setCell hg _
theorem ownK_empty {w : World} {base inner g : Nat} (h : w.heap[g]? = some (.cells #[] 39 (0, 0))) (hb : base ≤ g) : OwnK w base inner (.slice (some ⟨g, 0, none⟩) 0 0) [] := ⟨[], own_empty h hb, partsT_nil _ _⟩
set_option maxRecDepth 100000 in
set_option maxHeartbeats 8000000 in
theorem refGroup12_any (a : Option Addr) (n cap : Nat) (k : Kno) (w : World) (hE : Frags w a n cap k) (hR : ∀ f ∈ k, RawF f) (hF : ∀ f ∈ k, VecFits f.2) (hG : ∀ f ∈ k, VecFits (canonV f.2)) (hS : isum k ≤ 10000) (hn : n ≤ 2000) :
 Calls Tryz.prog 101 #[.slice a n cap] w fun x w' => (∃ y, x = .returned y ∧ OwnK w' w.heap.size w.heap.size y (groupK k)) ∧ Below w.heap.size w w' := by
 have HE := Lib.hid hE; have HR := Lib.hid hR; have HF := Lib.hid hF; have HG := Lib.hid hG
 have Hl := Lib.hid hE.len
 have Hall := Lib.hid (grpTo_all k)
 have HS := Lib.hid (fun d => And.intro (Nat.le_trans (grpTo_sum hR d).1 hS) (Nat.le_trans (grpTo_sum hR d).2 (by rw [hE.len]; exact hn)))
 have Hk1 := Lib.hid (fun f (hf : f ∈ k) => Nat.le_trans (isum_mem hf) hS)
 clear hE hR hF hG hS
 go_enter Tryz.func101, Tryz.ntmps101
 go_wp2
 go_loopw [3, 4, 5, 6] (fun y i _ _ wr => ∃ d : Nat, d ≤ n ∧ i = .int .i64 d ∧ Below w.heap.size w wr ∧ Hid (OwnK wr w.heap.size w.heap.size y (grpTo k d))) (fun _ i _ _ _ => n - (intOf i).toNat)
 case atStart => exact ⟨0, by omega, rfl, Below.refl _ _, ownK_nil _ _ _⟩
 case round =>
  obtain ⟨d, hd, rfl, hb, ho⟩ := hrel
  have Hb := Lib.hid hb; clear hb
  by_cases hdn : d < n
  · have hdk : d < k.length := by rw [Hl.out]; exact hdn
    obtain ⟨bb, oo, rfl⟩ := HE.out.some (by omega)
    obtain ⟨x, m, c, y, m', c', hq⟩ := HE.out.fix hdn
    have Hq := Lib.hid hq
    have hraw := HR.out _ (nthF_mem hdk)
    have hfit := HF.out _ (nthF_mem hdk)
    have Hgf := Lib.hid (HG.out _ (nthF_mem hdk))
    have Hfl := Lib.hid (Hk1.out _ (nthF_mem hdk))
    have Hst := Lib.hid (grpTo_succ hdk)
    have HOg := Lib.hid (grpTo_grp HR.out d)
    have HOf := Lib.hid (grpTo_fits HG.out d)
    have HOs := Lib.hid (HS.out d)
    have hC := Lib.hid (refCanon9_any y m' c' (nthF k d).2 wr (hq wr Hb.out).2.2.2 hfit)
    have Hcl := Lib.hid (canonV_can hraw.lt.vec hraw.lt.asc).2.1
    have Hil := Lib.hid (show (nthF k d).1.length = m ∧ Lt64 (nthF k d).1 from ⟨(hq wr Hb.out).2.1.len, (hq wr Hb.out).2.1.lt⟩)
    have h0 : (0 : Int) ≤ d := by omega
    have h04 : (d : Int) < (n : Int) := by omega
    have HIold := Lib.hid (show IvsT w w.heap.size x m c (nthF k d).1 from ivsT_old (hq w (Below.refl _ _)).2.1)
    have q1 := (hq wr Hb.out).1
    have q2 := (hq wr Hb.out).2.2.1
    clear hq hraw hfit
    generalize grpTo k d = O at *
    generalize nthF k d = f at *
    unfold stepG at Hst
    generalize canonV f.2 = V at *
    go_wp2_with fail
    refine hC.out.mono ?_
    rintro e w1 ⟨⟨yv, rfl, hov⟩, hb1⟩
    have Hw1 := Lib.hid (Hb.out.trans (hb1.mono Hb.out.size))
    have HoO := Lib.hid (ho.out.below hb1)
    obtain ⟨va, vc, rfl, hV⟩ := hov.entsT (base' := 0) Hcl.out
    have HV := Lib.hid hV
    clear hb1 hov hV q1 q2 hC
    have q1 := (Hq.out w1 Hw1.out).1
    obtain ⟨L, hL⟩ : ∃ L, L = V.length := ⟨_, rfl⟩
    rw [← hL] at HV ⊢
    have HL := Lib.hid hL
    clear hL
    by_cases hemp : V = [] ∨ f.1 = []
    · rw [if_pos hemp] at Hst
      by_cases hL0 : L = 0
      · have hz : ((L : Int) == 0) = true := by rw [hL0]; rfl
        clear hemp hL0
        go_wp2
        go_roundw
        case rel => exact ⟨d + 1, by omega, by go_num, Hw1.out, by rw [Hst.out]; exact HoO.out⟩
        case measure => simp [intOf]; omega
      · have hz : ((L : Int) == 0) = false := by rw [beq_eq_false_iff_ne]; omega
        have hz2 : ((m : Int) == 0) = true := by
         rcases hemp with h | h
         · exact absurd (by rw [HL.out, h]; rfl) hL0
         · have : m = 0 := by rw [← Hil.out.1, h]; rfl
           rw [this]; rfl
        clear hemp hL0
        go_wp2
        go_roundw
        case rel => exact ⟨d + 1, by omega, by go_num, Hw1.out, by rw [Hst.out]; exact HoO.out⟩
        case measure => simp [intOf]; omega
    · rw [if_neg hemp] at Hst
      have hz : ((L : Int) == 0) = false := by
       rw [beq_eq_false_iff_ne]
       intro h
       exact hemp (.inl (List.length_eq_zero_iff.1 (by have := HL.out; omega)))
      have hz2 : ((m : Int) == 0) = false := by
       rw [beq_eq_false_iff_ne]
       intro h
       exact hemp (.inr (List.length_eq_zero_iff.1 (by have := Hil.out.1; omega)))
      clear hemp
      obtain ⟨oa, oc, rfl, hO⟩ := HoO.out.frags
      have HO := Lib.hid hO
      clear hO
      have hOl : O.length ≤ 2000 := HOs.out.2
      go_wp2
      go_loopw [6] (fun t wi => ∃ p : Nat, p ≤ O.length ∧ t = .int .i64 p ∧ Below w1.heap.size w1 wi ∧ Hid (∀ j, j < p → cmpV (nthF O j).2 V = -1)) (fun t _ => O.length - (intOf t).toNat)
      case atStart => exact ⟨0, by omega, rfl, Below.refl _ _, fun j h => by omega⟩
      case round =>
       obtain ⟨p, hp, rfl, hbi, ht⟩ := hrel
       have Hbi := Lib.hid hbi; clear hbi
       have hp0 : (0 : Int) ≤ p := by omega
       by_cases hpO : p < O.length
       · have HOr := Lib.hid (HO.out.below Hbi.out)
         obtain ⟨bo, oo', rfl⟩ := HOr.out.some (by omega)
         obtain ⟨x1, m1, c1, x2, m2, c2, hq2⟩ := HOr.out.fix hpO
         have Hq2 := Lib.hid hq2
         have HVr := Lib.hid (fun w' (h : Below wr.heap.size wr w') => (HV.out.steady (P := fun _ => True) (.of_below (Hbi.out.trans (h.mono Hbi.out.size))) trivial trivial).ents)
         have hg := HOg.out _ (nthF_mem hpO)
         have hgf := HOf.out _ (nthF_mem hpO)
         have hCmp := Lib.hid (fun w' h => refCompare9_any x2 va m2 c2 L vc (nthF O p).2 V w' (hq2 w' h).2.2.2 (HVr.out w' h) (fits_num hgf) (fits_num Hgf.out) (lt_num hg.vec hgf) (lt_num Hcl.out Hgf.out))
         have Huniq := Lib.hid (fun h => posG_unique (k := O) (v := V) (i := p) hp ht.out h)
         have Hat := Lib.hid (fun h => posG_at (k := O) (v := V) h)
         have Hgi := Lib.hid hg.items
         have Hgl := Lib.hid (isum_mem (nthF_mem hpO))
         have Hstep := Lib.hid (fun h => all_step (p := fun j => cmpV (nthF O j).2 V = -1) ht.out h)
         have h04p : (p : Int) < (O.length : Int) := by omega
         obtain ⟨q3, -, q4, -⟩ := hq2 _ (Below.refl _ _)
         clear hq2 hg hgf
         rcases cmpV_range (nthF O p).2 V with hc | hc | hc
         · rw [hc] at hCmp
           have Hs := Lib.hid (Hstep.out hc)
           clear hc
           go_wp2_with fail
           refine (hCmp.out _ (Below.refl _ _)).mono ?_
           rintro e w2 ⟨rfl, hb2⟩
           have Hb2 := Lib.hid (Hbi.out.trans (hb2.mono Hbi.out.size)); clear hb2
           go_wp2
           go_roundw
           case rel => exact ⟨p + 1, by omega, by go_num, Hb2.out, Hs.out⟩
           case measure => simp [intOf]; omega
         · rw [hc] at hCmp
           have hpos : p = posG O V := Huniq.out (fun _ => by rw [hc]; omega)
           have hhit : hitG O V = true := by
            have := (Hat.out (by rw [← hpos]; exact hpO)).2
            rw [← hpos, hc] at this
            exact this
           have Hadd := Lib.hid (addG_hit (k := O) (f := (f.1, V)) hhit)
           rw [← hpos] at Hadd
           clear hpos hhit hc Huniq Hat Hstep
           go_wp2_with fail
           refine (hCmp.out _ (Below.refl _ _)).mono ?_
           rintro e w2 ⟨rfl, hb2⟩
           have Hb2 := Lib.hid hb2; clear hb2 q3 q4
           obtain ⟨q3, -, q4, -⟩ := Hq2.out _ Hb2.out
           go_wp2_with fail
           refine (hCmp.out _ Hb2.out).mono ?_
           rintro e w3 ⟨rfl, hb3⟩
           have Hb3 := Lib.hid (Hb2.out.trans (hb3.mono Hb2.out.size))
           have Hw31 := Lib.hid (Hbi.out.trans (Hb3.out.mono Hbi.out.size))
           have Hw0 := Lib.hid (Hw1.out.trans (Hw31.out.mono Hw1.out.size))
           clear hb3 q3 q4
           have hf3 := (Hq.out w3 Hw0.out).1
           have hfI := Lib.hid (fun w' h => (Hq.out w' h).2.1)
           obtain ⟨q3, hq3, q4, -⟩ := Hq2.out _ Hb3.out
           have HU := Lib.hid (fun w' (h : Below w3.heap.size w3 w') => refUnion5_any x1 x m1 c1 m c _ _ w' (hq3.below h) (hfI.out w' (Hw0.out.trans (h.mono Hw0.out.size))) (by have := Hfl.out; have := Hgl.out; have := HOs.out.1; omega))
           have HUl := Lib.hid (opL_good (g := gOr) Hgi.out Hil.out.2 rfl).2.2
           have HKr := Lib.hid (HoO.out.below Hw31.out)
           rcases HKr.out.form2 with ⟨he, -, -, hO0⟩ | ⟨g, ss, he, -, hgb, hgl, hgc, hgm, hro, hpt⟩
           · cases he
           · cases he
             have Hro := Lib.hid hro
             have Hpt := Lib.hid hpt
             clear hro hpt hq3
             rw [Nat.zero_add] at q3 q4
             have Hz := Lib.hid (fun w' (h : Below w3.heap.size w3 w') => And.intro ((h.cell (p := ⟨bo, p * 2, none⟩) (cell_lt q3)).trans q3) (And.intro ((h.cell (p := ⟨bo, p * 2 + 1, none⟩) (cell_lt q4)).trans q4) (And.intro (own_frozen (own_below Hro.out h) (p * 2)) (own_frozen (own_below Hro.out h) (p * 2 + 1)))))
             have hgb2 : w.heap.size ≤ bo := hgb
             generalize hop : opL gOr (nthF O p).1 f.1 = U at *
             go_wp2_with fail
             go_region_with (first
              | (go_at_call 143
                 refine (HU.out _ (by first | exact Below.refl _ _ | exact (Below.refl _ _).drew)).mono ?_
                 rintro e w4 ⟨⟨yu, rfl, hou⟩, hb4⟩
                 have hT4 : Below w3.heap.size w3 w4 := ⟨hb4.os, hb4.tape, hb4.output, hb4.size, hb4.block⟩
                 have hS4 : Below w.heap.size w3 w4 := hT4.mono Hw0.out.size
                 obtain ⟨ua, uc, rfl, hIu⟩ := ivsT_own (base' := w.heap.size) hou HUl.out
                 have HIu := Lib.hid hIu
                 have zz := Hz.out w4 hT4
                 have z0 := zz.1; have z1 := zz.2.1; have z2 := zz.2.2.1; have z3 := zz.2.2.2
                 clear zz hb4 hou hIu))
             all_goals go_wp2
             all_goals
              go_roundw
              case rel => exact ⟨d + 1, by omega, by go_num, Hw0.out.trans (below_set2 hS4 hgb2), by
               rw [Hst.out, Hadd.out]
               exact ownK_set (p := p) rfl (own_below Hro.out hT4) (Hpt.out.steady (P := fun _ => True) (.of_below hT4) trivial trivial |>.raise (Nat.le_refl _)) (Nat.le_refl _) (U, V) _ _ ⟨_, _, _, rfl, HIu.out⟩ ⟨_, _, _, rfl, (HV.out.steady (P := fun _ => True) (.of_below (Hw31.out.trans (hT4.mono Hw31.out.size))) trivial trivial).raise (Nat.zero_le _)⟩⟩
              case measure => simp [intOf]; omega
         · rw [hc] at hCmp
           have hpos : p = posG O V := Huniq.out (fun _ => by rw [hc]; omega)
           have hhit : hitG O V = false := by
            have := (Hat.out (by rw [← hpos]; exact hpO)).2
            rw [← hpos, hc] at this
            exact this
           have Hadd := Lib.hid (addG_miss (k := O) (f := (f.1, V)) hhit)
           rw [← hpos] at Hadd
           clear hpos hhit hc Huniq Hat Hstep
           go_wp2_with fail
           refine (hCmp.out _ (Below.refl _ _)).mono ?_
           rintro e w2 ⟨rfl, hb2⟩
           have Hb2 := Lib.hid hb2; clear hb2 q3 q4
           obtain ⟨q3, -, q4, -⟩ := Hq2.out _ Hb2.out
           go_wp2_with fail
           refine (hCmp.out _ Hb2.out).mono ?_
           rintro e w3 ⟨rfl, hb3⟩
           have Hb3 := Lib.hid (Hb2.out.trans (hb3.mono Hb2.out.size))
           have Hw31 := Lib.hid (Hbi.out.trans (Hb3.out.mono Hbi.out.size))
           have Hw0 := Lib.hid (Hw1.out.trans (Hw31.out.mono Hw1.out.size))
           clear hb3 q3 q4
           have HIF : ∀ w', Below w3.heap.size w3 w' → IvSl w' w.heap.size (.slice x m c) f.1 := fun w' h => ⟨_, _, _, rfl, HIold.out.steady (P := fun _ => True) (.of_below (Hw0.out.trans (h.mono Hw0.out.size))) trivial⟩
           have HEV : ∀ w', Below w3.heap.size w3 w' → EnSl w' w.heap.size (.slice va L vc) V := fun w' h => ⟨_, _, _, rfl, (HV.out.steady (P := fun _ => True) (.of_below (Hw31.out.trans (h.mono Hw31.out.size))) trivial trivial).raise (Nat.zero_le _)⟩
           have r3 : ∀ w', Below w3.heap.size w3 w' → w'.cell? ⟨bb, oo + d * 2, none⟩ = some (.slice x m c) := fun w' h => (Hq.out w' (Hw0.out.trans (h.mono Hw0.out.size))).1
           have hzw : w.heap.size ≤ w3.heap.size := Hw0.out.size
           have HKr := Lib.hid (HoO.out.below Hw31.out)
           rcases HKr.out.form2 with ⟨he, -, -, hO0⟩ | ⟨g, ss, he, -, hgb, hgl, hgc, hgm, hro, hpt⟩
           · cases he
           · cases he
             have hpc : p ≤ oc := by omega
             have HPT : ∀ w', Below w3.heap.size w3 w' → PartsT w' w.heap.size (O.take p) (ss.take p) := fun w' h => (hpt.steady (P := fun _ => True) (.of_below h) trivial trivial).take _
             have HPD : ∀ w', Below w3.heap.size w3 w' → PartsT w' w.heap.size (O.drop p) (ss.drop p) := fun w' h => (hpt.steady (P := fun _ => True) (.of_below h) trivial trivial).drop _
             have Hhd := Lib.hid (show ∀ w', Below w3.heap.size w3 w' → Rd w' 2 (some ⟨bo, 0, none⟩) p (frgC (ss.take p)) from fun w' h => by
              have := own_take (own_below hro h) p (by omega)
              rw [frgC_take] at this
              exact Rd.own this)
             have Htl := Lib.hid (show ∀ w', Below w3.heap.size w3 w' → Rd w' 2 (if oc = p then some ⟨bo, 0, none⟩ else some ⟨bo, p * 2, none⟩) (O.length - p) (frgC (ss.drop p)) from fun w' h => by
              have h1 := (own_drop_gen hro p (by omega)).below h
              rw [frgC_drop] at h1
              split
              · exact ⟨h1.1, fun h0 => by omega⟩
              · exact h1)
             go_wp2_with fail
             go_region_held3 (fun w' => Below w3.heap.size w3 w') (first | assumption | exact (Below.refl _ _).drew | exact Below.alloc (by assumption) (Below.size (by assumption)) _) (first
              | (refine step_append_frg rfl (.tmp 77) (.tmp 80) rfl rfl w3.heap.size w.heap.size _ [] rfl (ownK_empty (by first | exact heap_at_new _ _ _ (by simp) | exact heap_at_old _ _ _ _ (heap_at_new _ _ _ (by simp))) (by simp <;> omega)) _ _ p (O.take p) (by rw [List.length_take]; omega) (ss.take p) (HPT _ (by assumption)) rfl (Hhd.out _ (by assumption)) (by simp <;> omega) (by simp <;> omega) (by omega) ?_
                 intro v1 w5 ho1 hg1 _
                 have hS1 : Below w3.heap.size w3 w5 := by
                  refine Below.grown (B := w3.heap.size) (by assumption) hg1 (by simp <;> omega) ?_
                  intro j hj
                  simp [Value.ownBlock, Act.eval] at hj
                  omega)
              | (refine step_append_frg rfl (.tmp 81) (.tmp 89) rfl rfl w3.heap.size w.heap.size _ _ rfl (by first | exact ho1 | exact ho1.below ((Below.refl _ _).alloc (Nat.le_refl _) _)) _ 1 1 [(f.1, V)] rfl [(_, _)] (partsT_one (HIF _ (by assumption)) (HEV _ (by assumption))) rfl (by first | exact rd_block (heap_at_new _ _ _ (by simp)) rfl rfl | exact rd_grown hg1 (rd_block (by first | exact heap_at_new _ _ _ (by simp) | exact heap_at_old _ _ _ _ (heap_at_new _ _ _ (by simp))) rfl rfl) (by simp [Value.ownBlock, Act.eval]) (by simp <;> omega)) (by simp <;> omega) (by have := hS1.size; simp <;> omega) (by omega) ?_
                 intro v2 w6 ho2 hg2 _
                 have hS2 : Below w3.heap.size w3 w6 := by
                  refine Below.grown (B := w3.heap.size) (by assumption) hg2 ?_ (fun j hj => (ho1.lt j hj).1)
                  have := hS1.size
                  simp <;> omega)
              | (refine step_append_frg rfl (.tmp 90) (.tmp 93) rfl rfl w3.heap.size w.heap.size _ _ rfl ho2 _ _ (O.length - p) (O.drop p) (by rw [List.length_drop]) (ss.drop p) (HPD _ (by assumption)) rfl (Htl.out _ (by assumption)) (by simp <;> omega) (by have := hS2.size; simp <;> omega) (by omega) ?_
                 intro v3 w7 ho3 hg3 _
                 have hS3 : Below w3.heap.size w3 w7 := by
                  refine Below.grown (B := w3.heap.size) (by assumption) hg3 ?_ (fun j hj => (ho2.lt j hj).1)
                  have := hS2.size
                  simp <;> omega))
             all_goals go_wp2
             all_goals
              go_roundw
              case rel => exact ⟨d + 1, by omega, by go_num, Hw0.out.trans (hS3.mono Hw0.out.size), by
               rw [Hst.out, Hadd.out]
               have h9 := ho3.lower (show w.heap.size ≤ w3.heap.size from Hw0.out.size)
               have h10 : OwnK w7 w.heap.size w.heap.size v3 (O.take p ++ (f.1, V) :: O.drop p) := by simpa using h9
               exact h10⟩
              case measure => simp [intOf]; omega
       · obtain rfl : p = O.length := by omega
         have hpos : O.length = posG O V := posG_unique (k := O) (v := V) (by omega) ht.out (fun h => by omega)
         have hhit : hitG O V = false := hitG_end hpos.symm
         have hadd := addG_miss (k := O) (f := (f.1, V)) hhit
         rw [← hpos, List.drop_length] at hadd
         have Hadd := Lib.hid hadd
         clear hpos hhit hadd
         obtain ⟨w3, hw3⟩ : ∃ w3 : World, w3 = wr := ⟨_, rfl⟩
         rw [← hw3] at Hbi ⊢
         have Hw31 := Lib.hid Hbi.out
         have Hw0 := Lib.hid (Hw1.out.trans (Hw31.out.mono Hw1.out.size))
         clear hw3
         have HIF : ∀ w', Below w3.heap.size w3 w' → IvSl w' w.heap.size (.slice x m c) f.1 := fun w' h => ⟨_, _, _, rfl, HIold.out.steady (P := fun _ => True) (.of_below (Hw0.out.trans (h.mono Hw0.out.size))) trivial⟩
         have HEV : ∀ w', Below w3.heap.size w3 w' → EnSl w' w.heap.size (.slice va L vc) V := fun w' h => ⟨_, _, _, rfl, (HV.out.steady (P := fun _ => True) (.of_below (Hw31.out.trans (h.mono Hw31.out.size))) trivial trivial).raise (Nat.zero_le _)⟩
         have r3 : ∀ w', Below w3.heap.size w3 w' → w'.cell? ⟨bb, oo + d * 2, none⟩ = some (.slice x m c) := fun w' h => (Hq.out w' (Hw0.out.trans (h.mono Hw0.out.size))).1
         have hzw : w.heap.size ≤ w3.heap.size := Hw0.out.size
         have HKr := Lib.hid (HoO.out.below Hw31.out)
         rcases HKr.out.form2 with ⟨rfl, hn0, rfl, rfl⟩ | ⟨g, ss, rfl, -, hgb, hgl, hgc, hgm, hro, hpt⟩
         · clear hn0
           have hO0 : (([] : Kno).length : Int) = 0 := rfl
           rw [List.length_nil, show ((0 : Nat) : Int) = 0 from rfl]
           go_wp2_with fail
           go_region_held3 (fun w' => Below w3.heap.size w3 w') (first | assumption | exact (Below.refl _ _).drew | exact Below.alloc (by assumption) (Below.size (by assumption)) _) (first
            | (refine step_append_frg rfl (.tmp 77) (.tmp 80) rfl rfl w3.heap.size w.heap.size _ [] rfl (ownK_empty (by first | exact heap_at_new _ _ _ (by simp) | exact heap_at_old _ _ _ _ (heap_at_new _ _ _ (by simp))) (by simp <;> omega)) _ _ 0 [] rfl [] (partsT_nil _ _) rfl (rd_none _ _) (by simp <;> omega) (by simp <;> omega) (by omega) ?_
               intro v1 w5 ho1 hg1 _
               have hS1 : Below w3.heap.size w3 w5 := by
                refine Below.grown (B := w3.heap.size) (by assumption) hg1 (by simp <;> omega) ?_
                intro j hj
                simp [Value.ownBlock, Act.eval] at hj
                omega)
            | (refine step_append_frg rfl (.tmp 81) (.tmp 89) rfl rfl w3.heap.size w.heap.size _ _ rfl (by first | exact ho1 | exact ho1.below ((Below.refl _ _).alloc (Nat.le_refl _) _)) _ 1 1 [(f.1, V)] rfl [(_, _)] (partsT_one (HIF _ (by assumption)) (HEV _ (by assumption))) rfl (by first | exact rd_block (heap_at_new _ _ _ (by simp)) rfl rfl | exact rd_grown hg1 (rd_block (by first | exact heap_at_new _ _ _ (by simp) | exact heap_at_old _ _ _ _ (heap_at_new _ _ _ (by simp))) rfl rfl) (by simp [Value.ownBlock, Act.eval]) (by simp <;> omega)) (by simp <;> omega) (by have := hS1.size; simp <;> omega) (by omega) ?_
               intro v2 w6 ho2 hg2 _
               have hS2 : Below w3.heap.size w3 w6 := by
                refine Below.grown (B := w3.heap.size) (by assumption) hg2 ?_ (fun j hj => (ho1.lt j hj).1)
                have := hS1.size
                simp <;> omega)
            | (refine step_append_frg rfl (.tmp 90) (.tmp 93) rfl rfl w3.heap.size w.heap.size _ _ rfl ho2 _ _ 0 [] rfl [] (partsT_nil _ _) rfl (rd_none _ _) (by simp <;> omega) (by have := hS2.size; simp <;> omega) (by omega) ?_
               intro v3 w7 ho3 hg3 _
               have hS3 : Below w3.heap.size w3 w7 := by
                refine Below.grown (B := w3.heap.size) (by assumption) hg3 ?_ (fun j hj => (ho2.lt j hj).1)
                have := hS2.size
                simp <;> omega))
           all_goals go_wp2
           all_goals
            go_roundw
            case rel => exact ⟨d + 1, by omega, by go_num, Hw0.out.trans (hS3.mono Hw0.out.size), by
             rw [Hst.out, Hadd.out]
             have h9 := ho3.lower (show w.heap.size ≤ w3.heap.size from Hw0.out.size)
             have h10 : OwnK w7 w.heap.size w.heap.size v3 [(f.1, V)] := by simpa using h9
             exact h10⟩
            case measure => simp [intOf]; omega
         · skip
           have HPT : ∀ w', Below w3.heap.size w3 w' → PartsT w' w.heap.size (O.take O.length) (ss.take O.length) := fun w' h => (hpt.steady (P := fun _ => True) (.of_below h) trivial trivial).take _
           have Hhd := Lib.hid (show ∀ w', Below w3.heap.size w3 w' → Rd w' 2 (some ⟨g, 0, none⟩) O.length (frgC (ss.take O.length)) from fun w' h => by
            have := own_take (own_below hro h) O.length (by omega)
            rw [frgC_take] at this
            exact Rd.own this)
           have Htl := Lib.hid (show ∀ w', Below w3.heap.size w3 w' → Rd w' 2 (if oc = O.length then some ⟨g, 0, none⟩ else some ⟨g, O.length * 2, none⟩) 0 (frgC []) from fun w' h => ⟨rfl, fun h0 => by omega⟩)
           go_wp2_with fail
           go_region_held3 (fun w' => Below w3.heap.size w3 w') (first | assumption | exact (Below.refl _ _).drew | exact Below.alloc (by assumption) (Below.size (by assumption)) _) (first
            | (refine step_append_frg rfl (.tmp 77) (.tmp 80) rfl rfl w3.heap.size w.heap.size _ [] rfl (ownK_empty (by first | exact heap_at_new _ _ _ (by simp) | exact heap_at_old _ _ _ _ (heap_at_new _ _ _ (by simp))) (by simp <;> omega)) _ _ O.length (O.take O.length) (by rw [List.length_take]; omega) (ss.take O.length) (HPT _ (by assumption)) rfl (Hhd.out _ (by assumption)) (by simp <;> omega) (by simp <;> omega) (by omega) ?_
               intro v1 w5 ho1 hg1 _
               have hS1 : Below w3.heap.size w3 w5 := by
                refine Below.grown (B := w3.heap.size) (by assumption) hg1 (by simp <;> omega) ?_
                intro j hj
                simp [Value.ownBlock, Act.eval] at hj
                omega)
            | (refine step_append_frg rfl (.tmp 81) (.tmp 89) rfl rfl w3.heap.size w.heap.size _ _ rfl (by first | exact ho1 | exact ho1.below ((Below.refl _ _).alloc (Nat.le_refl _) _)) _ 1 1 [(f.1, V)] rfl [(_, _)] (partsT_one (HIF _ (by assumption)) (HEV _ (by assumption))) rfl (by first | exact rd_block (heap_at_new _ _ _ (by simp)) rfl rfl | exact rd_grown hg1 (rd_block (by first | exact heap_at_new _ _ _ (by simp) | exact heap_at_old _ _ _ _ (heap_at_new _ _ _ (by simp))) rfl rfl) (by simp [Value.ownBlock, Act.eval]) (by simp <;> omega)) (by simp <;> omega) (by have := hS1.size; simp <;> omega) (by omega) ?_
               intro v2 w6 ho2 hg2 _
               have hS2 : Below w3.heap.size w3 w6 := by
                refine Below.grown (B := w3.heap.size) (by assumption) hg2 ?_ (fun j hj => (ho1.lt j hj).1)
                have := hS1.size
                simp <;> omega)
            | (refine step_append_frg rfl (.tmp 90) (.tmp 93) rfl rfl w3.heap.size w.heap.size _ _ rfl ho2 _ _ 0 [] rfl [] (partsT_nil _ _) rfl (Htl.out _ (by assumption)) (by simp <;> omega) (by have := hS2.size; simp <;> omega) (by omega) ?_
               intro v3 w7 ho3 hg3 _
               have hS3 : Below w3.heap.size w3 w7 := by
                refine Below.grown (B := w3.heap.size) (by assumption) hg3 ?_ (fun j hj => (ho2.lt j hj).1)
                have := hS2.size
                simp <;> omega))
           all_goals go_wp2
           all_goals
            go_roundw
            case rel => exact ⟨d + 1, by omega, by go_num, Hw0.out.trans (hS3.mono Hw0.out.size), by
             rw [Hst.out, Hadd.out]
             have h9 := ho3.lower (show w.heap.size ≤ w3.heap.size from Hw0.out.size)
             have h10 : OwnK w7 w.heap.size w.heap.size v3 (O.take O.length ++ [(f.1, V)]) := by simpa using h9
             exact h10⟩
            case measure => simp [intOf]; omega
  · obtain rfl : d = n := by omega
    have Ho := Lib.hid ho.out
    rw [← Hl.out, Hall.out] at Ho
    go_wp2
    go_ret
    exact ⟨⟨_, rfl, Ho.out⟩, Hb.out⟩
def OwnKno (k : Kno) (x : Ending) (w' : World) : Prop := ∃ a c, x = .returned (.slice a k.length c) ∧ Frags w' a k.length c k
theorem isum_ref (k : Kno) (x : Kno) (l : List Iv) : isum (l.map fun s => ([s], atK k s.1)) = l.length := by
 induction l with
 | nil => rfl
 | cons s l ih => rw [List.map_cons, isum, ih, List.length_cons]; simp; omega
theorem refCanon13_any (a : Option Addr) (n cap : Nat) (k : Kno) (w : World) (hE : Frags w a n cap k) (hL : LtK k) (hF : KnoFits k) (hA : (allL (k.map (·.1))).length ≤ 2000) :
 Calls Tryz.prog 65 #[.slice a n cap] w fun x w' => OwnKno (canonK k) x w' ∧ Below w.heap.size w w' := by
 have hC := Lib.hid (refRefine12_any a n cap k w hE hL hF hA)
 have hl : (refineK k).length ≤ 2000 := by unfold refineK; rw [List.length_map]; exact Nat.le_trans (piecesK_len k) hA
 have hs : isum (refineK k) ≤ 10000 := by
  unfold refineK
  rw [isum_ref k k]
  have := piecesK_len k
  omega
 have hv : ∀ f ∈ refineK k, VecFits f.2 ∧ VecFits (canonV f.2) := fun f hf => by
  unfold refineK at hf
  obtain ⟨s, hs, rfl⟩ := List.mem_map.1 hf
  obtain ⟨c1, c2, _⟩ := atK_can hL s.1
  have h1 : VecFits (atK k s.1) := by rw [← atTo_all]; exact hF.at_ _ _
  simp only
  rw [canonV_self c2 c1]
  exact ⟨h1, h1⟩
 have hG := Lib.hid (fun a c w' (h : Frags w' a (refineK k).length c (refineK k)) => refGroup12_any a _ c (refineK k) w' h (refine_raw hL) (fun f hf => (hv f hf).1) (fun f hf => (hv f hf).2) hs hl)
 have Hck := Lib.hid (show canonK k = groupK (refineK k) from rfl)
 clear hE hL hF hA hl hs hv
 go_enter Tryz.func65, Tryz.ntmps65
 go_wp2_with fail
 refine hC.out.mono ?_
 rintro e w1 ⟨⟨v, rfl, ho⟩, hb⟩
 have Hb := Lib.hid hb
 obtain ⟨a1, c1, rfl, h1⟩ := ho.frags
 have H1 := Lib.hid h1
 clear ho hb h1
 go_wp2_with fail
 refine (hG.out _ _ _ H1.out).mono ?_
 rintro e w2 ⟨⟨v, rfl, ho⟩, hb⟩
 have Hb2 := Lib.hid (Hb.out.trans (hb.mono Hb.out.size))
 obtain ⟨a2, c2, rfl, h2⟩ := ho.frags
 have H2 := Lib.hid h2
 clear ho hb h2
 go_wp2
 go_ret
 exact ⟨⟨_, _, by rw [Hck.out]; rfl, by rw [Hck.out]; exact H2.out⟩, Hb2.out⟩
def cmpv (s : Iv) (x : Nat) : Int := if s.2 < x then -1 else if x < s.1 then 1 else 0
theorem findCmp_any (s : Iv) (x : Nat) (w : World) :
 Calls Tryz.prog 132 #[ivV s, .int .u64 x] w fun e w' => e = .returned (.int .i64 (cmpv s x)) ∧ Below w.heap.size w w' := by
 obtain ⟨a, b⟩ := s
 have hb := (Below.refl w.heap.size w).alloc (Nat.le_refl _) (.cells #[.int .u64 a, .int .u64 b] 73)
 by_cases h1 : b < x
 · have Hr := Lib.hid (show cmpv (a, b) x = -1 from by simp [cmpv, h1])
   generalize cmpv (a, b) x = r at *
   go_enter Tryz.func132, Tryz.ntmps132
   go_wp2
   go_ret
   exact ⟨ret_int Hr.out.symm, hb⟩
 · by_cases h2 : x < a
   · have Hr := Lib.hid (show cmpv (a, b) x = 1 from by simp [cmpv, h1, h2])
     generalize cmpv (a, b) x = r at *
     go_enter Tryz.func132, Tryz.ntmps132
     go_wp2
     go_ret
     exact ⟨ret_int Hr.out.symm, hb⟩
   · have Hr := Lib.hid (show cmpv (a, b) x = 0 from by simp [cmpv, h1, h2])
     generalize cmpv (a, b) x = r at *
     go_enter Tryz.func132, Tryz.ntmps132
     go_wp2
     go_ret
     exact ⟨ret_int Hr.out.symm, hb⟩
def fnd (l : List Iv) (x : Nat) : Nat := (l.takeWhile fun s => decide (s.2 < x)).length
theorem fnd_eq : ∀ {l : List Iv} {x i : Nat}, i ≤ l.length → (∀ t, t < i → (nthI l t).2 < x) → (∀ t, i ≤ t → t < l.length → ¬ (nthI l t).2 < x) → fnd l x = i
 | [], x, i, hi, _, _ => by simp at hi; subst hi; rfl
 | s :: l, x, i, hi, h1, h2 => by
   cases i with
   | zero =>
    have := h2 0 (by omega) (by simp)
    have e : ¬ s.2 < x := this
    simp [fnd, e]
   | succ i =>
    have e : s.2 < x := h1 0 (by omega)
    have := fnd_eq (l := l) (x := x) (i := i) (by simpa using hi) (fun t ht => h1 (t + 1) (by omega)) (fun t ht htl => h2 (t + 1) (by omega) (by simpa using htl))
    unfold fnd at this ⊢
    rw [List.takeWhile_cons, if_pos (by simpa using e)]
    simpa using this
theorem good_mono {l : List Iv} (h : Good l) {i j : Nat} (hij : i < j) (hj : j < l.length) : (nthI l i).2 + 1 < (nthI l j).1 := by
 induction j with
 | zero => omega
 | succ j ih =>
  have h1 := (good_idx h (j + 1) hj).2 (by omega)
  rw [Nat.add_sub_cancel] at h1
  by_cases e : i = j
  · subst e; exact h1
  · have := ih (by omega) (by omega)
    have := (good_idx h j (by omega)).1
    omega
theorem mem_fnd {l : List Iv} (h : Good l) {x i : Nat} (hi : i ≤ l.length) (h1 : ∀ t, t < i → (nthI l t).2 < x) (h2 : ∀ t, i ≤ t → t < l.length → ¬ (nthI l t).2 < x) :
 mem l x = (decide (i < l.length) && decide ((nthI l i).1 ≤ x)) := by
 rw [Bool.eq_iff_iff, mem_iff]
 simp only [Bool.and_eq_true, decide_eq_true_iff]
 constructor
 · rintro ⟨s, hs, k1, k2⟩
   obtain ⟨t, ht, rfl⟩ := List.getElem_of_mem hs
   rw [← nthI_get ht] at k1 k2
   have : i ≤ t := by
    refine Nat.le_of_not_lt fun hlt => ?_
    have := h1 t hlt
    omega
   refine ⟨by omega, ?_⟩
   by_cases e : i = t
   · subst e; exact k1
   · have := good_mono h (i := i) (j := t) (by omega) ht
     have := (good_idx h i (by omega)).1
     omega
 · rintro ⟨k1, k2⟩
   exact ⟨nthI l i, nthI_mem k1, k2, by have := h2 i (Nat.le_refl _) k1; omega⟩
set_option maxHeartbeats 1000000 in
set_option maxRecDepth 20000 in
theorem bsearch_any (a : Option Addr) (n cap x : Nat) (l : List Iv) (w : World) (hI : Ivs w a n cap l) (hG : Good l) (hn : n ≤ 1000000) :
 Calls Tryz.prog 131 #[.slice a n cap, .int .u64 x, .func (.func 132) #[] #[]] w fun e w' =>
  e = .returned (.tuple #[.int .i64 ((fnd l x : Nat) : Int), .bool (mem l x)]) ∧ Below w.heap.size w w' := by
 have HI := Lib.hid hI; have HG := Lib.hid hG
 have Hl := Lib.hid hI.len
 clear hI hG
 go_enter Tryz.func131, Tryz.ntmps131
 go_wp2
 go_loopw [9, 10, 11] (fun i j _ wr => ∃ p q : Nat, p ≤ q ∧ q ≤ n ∧ i = .int .i64 p ∧ j = .int .i64 q ∧ Below w.heap.size w wr ∧ Hid ((∀ t, t < p → (nthI l t).2 < x) ∧ ∀ t, q ≤ t → t < n → ¬ (nthI l t).2 < x)) (fun i j _ _ => (intOf j).toNat - (intOf i).toNat)
 case atStart => exact ⟨0, n, by omega, by omega, rfl, rfl, Below.refl _ _, fun t ht => by omega, fun t h1 h2 => by omega⟩
 case round =>
  obtain ⟨p, q, hpq, hqn, rfl, rfl, hb, ht⟩ := hrel
  have Hb := Lib.hid hb; clear hb
  by_cases hlt : p < q
  · obtain ⟨bb, oo, rfl, hcell⟩ := (HI.out.below Hb.out).cells (by omega)
    obtain ⟨h, hh, hph, hhq⟩ : ∃ h : Nat, ((p : Int) + (q : Int)) / 2 = (h : Int) ∧ p ≤ h ∧ h < q := ⟨(p + q) / 2, by omega, by omega, by omega⟩
    have hhn : h < n := by omega
    obtain ⟨hc1, hc2⟩ := hcell h hhn
    clear hcell
    have hC := Lib.hid (fun w => findCmp_any (nthI l h) x w)
    have Hms := Lib.hid (fun t (ht : t < h) => good_mono HG.out ht (by rw [Hl.out]; exact hhn))
    have Hms2 := Lib.hid (fun t (ht : h < t) (htl : t < n) => good_mono HG.out ht (by rw [Hl.out]; exact htl))
    have Hok := Lib.hid (fun t (ht : t < n) => (good_idx HG.out t (by rw [Hl.out]; exact ht)).1)
    by_cases hlx : (nthI l h).2 < x
    · have Hlx := Lib.hid hlx
      rw [show cmpv (nthI l h) x = -1 from by simp [cmpv, hlx]] at hC
      clear hlx
      have Hr := Lib.hid (show ∀ t, t < h + 1 → (nthI l t).2 < x from by
       intro t htt
       by_cases e : t = h
       · subst e; exact Hlx.out
       · have h1 := Hms.out t (by omega)
         have h2 := Hok.out h hhn
         have h3 := Hlx.out
         omega)
      generalize nthI l h = s at *
      go_wp2_with fail
      refine (hC.out _).mono ?_
      rintro e w1 ⟨rfl, hb1⟩
      have Hb1 := Lib.hid (Hb.out.trans (hb1.mono Hb.out.size)); clear hb1
      clear hc1 hc2 hh
      go_wp2_with fail
      go_roundw
      case rel => exact ⟨h + 1, q, by omega, by omega, by go_num, rfl, Hb1.out, Hr.out, ht.out.2⟩
      case measure => simp [intOf]; omega
    · have Hr := Lib.hid (show ∀ t, h ≤ t → t < n → ¬ (nthI l t).2 < x from by
       intro t htt htn
       by_cases e : t = h
       · subst e; exact hlx
       · have h1 := Hms2.out t (by omega) htn
         have h2 := Hok.out t htn
         omega)
      have hcv : 0 ≤ cmpv (nthI l h) x := by unfold cmpv; rw [if_neg hlx]; split <;> omega
      generalize cmpv (nthI l h) x = cv at *
      generalize nthI l h = s at *
      clear hlx
      go_wp2_with fail
      refine (hC.out _).mono ?_
      rintro e w1 ⟨rfl, hb1⟩
      have Hb1 := Lib.hid (Hb.out.trans (hb1.mono Hb.out.size)); clear hb1
      clear hc1 hc2 hh
      go_wp2_with fail
      go_roundw
      case rel => exact ⟨p, h, by omega, by omega, rfl, rfl, Hb1.out, ht.out.1, Hr.out⟩
      case measure => simp [intOf]; omega
  · obtain rfl : p = q := by omega
    have Hf := Lib.hid (fnd_eq (l := l) (x := x) (i := p) (by rw [Hl.out]; exact hqn) ht.out.1 (fun t h1 h2 => ht.out.2 t h1 (by rw [← Hl.out]; exact h2)))
    have Hm := Lib.hid (mem_fnd HG.out (x := x) (i := p) (by rw [Hl.out]; exact hqn) ht.out.1 (fun t h1 h2 => ht.out.2 t h1 (by rw [← Hl.out]; exact h2)))
    rw [Hl.out] at Hm
    by_cases hpn : p < n
    · obtain ⟨bb, oo, rfl, hcell⟩ := (HI.out.below Hb.out).cells (by omega)
      obtain ⟨hc1, hc2⟩ := hcell p hpn
      clear hcell
      have hC := Lib.hid (fun w => findCmp_any (nthI l p) x w)
      have hnl := ht.out.2 p (Nat.le_refl _) hpn
      rw [decide_eq_true hpn, Bool.true_and] at Hm
      by_cases hxs : (nthI l p).1 ≤ x
      · rw [decide_eq_true hxs] at Hm
        rw [show cmpv (nthI l p) x = 0 from by unfold cmpv; rw [if_neg hnl, if_neg (by omega)]] at hC
        generalize nthI l p = s at *
        clear hnl hxs
        go_wp2_with fail
        refine (hC.out _).mono ?_
        rintro e w1 ⟨rfl, hb1⟩
        have Hb1 := Lib.hid (Hb.out.trans (hb1.mono Hb.out.size)); clear hb1
        clear hc1 hc2
        go_wp2_with fail
        go_ret2
        exact ⟨by rw [Hf.out, Hm.out]; rfl, Hb1.out⟩
      · rw [decide_eq_false hxs] at Hm
        rw [show cmpv (nthI l p) x = 1 from by unfold cmpv; rw [if_neg hnl, if_pos (by omega)]] at hC
        generalize nthI l p = s at *
        clear hnl hxs
        go_wp2_with fail
        refine (hC.out _).mono ?_
        rintro e w1 ⟨rfl, hb1⟩
        have Hb1 := Lib.hid (Hb.out.trans (hb1.mono Hb.out.size)); clear hb1
        clear hc1 hc2
        go_wp2_with fail
        go_ret2
        exact ⟨by rw [Hf.out, Hm.out]; rfl, Hb1.out⟩
    · obtain rfl : p = n := by omega
      rw [decide_eq_false hpn, Bool.false_and] at Hm
      have hd : decide ((p : Int) < (p : Int)) = false := by simp
      go_wp2_with fail
      go_ret2
      exact ⟨by rw [Hf.out, Hm.out]; rfl, Hb.out⟩
def findI (l : List Iv) (x : Nat) : Int := if mem l x = true then ((fnd l x : Nat) : Int) else -1
theorem find_any (a : Option Addr) (n cap x : Nat) (l : List Iv) (w : World) (hI : Ivs w a n cap l) (hG : Good l) (hn : n ≤ 1000000) :
 Calls Tryz.prog 75 #[.slice a n cap, .int .u64 x] w fun e w' => e = .returned (.int .i64 (findI l x)) ∧ Below w.heap.size w w' := by
 have hC := Lib.hid (bsearch_any a n cap x l w hI hG hn)
 clear hI hG
 unfold findI
 cases hm : mem l x with
 | true =>
  rw [hm] at hC
  rw [if_pos rfl]
  clear hm
  generalize fnd l x = f at *
  go_enter Tryz.func75, Tryz.ntmps75
  go_wp2_with fail
  refine hC.out.mono ?_
  rintro e w1 ⟨rfl, hb1⟩
  go_wp2
  go_ret
  exact ⟨rfl, hb1⟩
 | false =>
  rw [hm] at hC
  rw [if_neg (by simp)]
  clear hm
  generalize fnd l x = f at *
  go_enter Tryz.func75, Tryz.ntmps75
  go_wp2_with fail
  refine hC.out.mono ?_
  rintro e w1 ⟨rfl, hb1⟩
  go_wp2
  go_ret
  exact ⟨rfl, hb1⟩
theorem has_any (a : Option Addr) (n cap x : Nat) (l : List Iv) (w : World) (hI : Ivs w a n cap l) (hG : Good l) (hn : n ≤ 1000000) :
 Calls Tryz.prog 44 #[.slice a n cap, .int .u64 x] w fun e w' => e = .returned (.bool (mem l x)) ∧ Below w.heap.size w w' := by
 have hC := Lib.hid (find_any a n cap x l w hI hG hn)
 clear hI hG
 cases h : mem l x with
 | true =>
  have hd : findI l x = ((fnd l x : Nat) : Int) := by unfold findI; rw [if_pos h]
  rw [hd] at hC
  clear h hd
  generalize fnd l x = f at *
  have hd : decide (0 ≤ (f : Int)) = true := by rw [decide_eq_true_iff]; omega
  go_enter Tryz.func44, Tryz.ntmps44
  go_wp2_with fail
  refine hC.out.mono ?_
  rintro e w1 ⟨rfl, hb1⟩
  go_wp2
  go_ret
  exact ⟨ret_bool (by simp), hb1⟩
 | false =>
  have hd : findI l x = -1 := by unfold findI; rw [if_neg (by rw [h]; simp)]
  rw [hd] at hC
  clear h hd
  go_enter Tryz.func44, Tryz.ntmps44
  go_wp2_with fail
  refine hC.out.mono ?_
  rintro e w1 ⟨rfl, hb1⟩
  go_wp2
  go_ret
  exact ⟨ret_bool (by simp), hb1⟩
end
end Go.Proofs.YtkkdlgcfcbaibaaGreatDoor
