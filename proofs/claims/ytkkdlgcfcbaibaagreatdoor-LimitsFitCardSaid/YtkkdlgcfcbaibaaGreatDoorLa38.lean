/- Walks and laws, joined: La38. -/
import Derived.Test.YtkkdlgcfcbaibaaGreatDoorLa31
import Derived.Test.YtkkdlgcfcbaibaaGreatDoorLa32
import Derived.Test.YtkkdlgcfcbaibaaGreatDoorLa37
import Derived.Test.YtkkdlgcfcbaibaaGreatDoorLa22
import Derived.Test.YtkkdlgcfcbaibaaGreatDoorLa19
import Derived.Test.YtkkdlgcfcbaibaaGreatDoorLa30
import Derived.Test.YtkkdlgcfcbaibaaGreatDoorLa28
import Derived.Test.YtkkdlgcfcbaibaaGreatDoorLa27
set_option linter.unusedVariables false
namespace Go.Proofs.YtkkdlgcfcbaibaaGreatDoor
section
open Go.RowKit
theorem grpTo_pw {k : Kno} (h : ∀ f ∈ k, RawF f) (d : Nat) : (grpTo k d).Pairwise VecLt :=
 (group_fold (k := k.take d) (out := []) (fun f hf => h f (List.mem_of_mem_take hf)) (fun g hg => by cases hg) List.Pairwise.nil).2.1
set_option maxRecDepth 20000 in
set_option maxHeartbeats 4000000 in
theorem group_any (a : Option Addr) (n cap : Nat) (k : Kno) (w : World) (hE : Frags w a n cap k) (hR : ∀ f ∈ k, RawF f) (hF : ∀ f ∈ k, VecFits f.2) (hC : ∀ f ∈ k, CanV f.2) (hS : isum k ≤ 50000) (hn : n ≤ 50000) :
 Calls Tryz.prog 68 #[.slice a n cap] w fun x w' => (∃ y, x = .returned y ∧ OwnK w' w.heap.size 0 y (groupK k)) ∧ Below w.heap.size w w' := by
 have HE := Lib.hid hE; have HR := Lib.hid hR; have HF := Lib.hid hF; have HC := Lib.hid hC
 have Hl := Lib.hid hE.len
 have Hall := Lib.hid (grpTo_all k)
 have HS := Lib.hid (fun d => And.intro (Nat.le_trans (grpTo_sum hR d).1 hS) (Nat.le_trans (grpTo_sum hR d).2 (by rw [hE.len]; exact hn)))
 have Hk1 := Lib.hid (fun f (hf : f ∈ k) => Nat.le_trans (isum_mem hf) hS)
 have Hself := Lib.hid (fun f (hf : f ∈ k) => canonV_self (hR f hf).lt.vec (hC f hf))
 have HGf := Lib.hid (grpTo_fits (k := k) (fun f hf => by rw [canonV_self (hR f hf).lt.vec (hC f hf)]; exact hF f hf))
 clear hE hR hF hC hS
 go_enter Tryz.func68, Tryz.ntmps68
 go_wp2
 go_loopw [6, 7, 11] (fun _ _ i wr => ∃ (d : Nat) (x : Value), d ≤ n ∧ i = .int .i64 d ∧ Below w.heap.size w wr ∧ Hid (wr.heap[w.heap.size]? = some (.cells #[x] 160 (0, 0))) ∧ Hid (OwnK wr (w.heap.size + 1) 0 x (grpTo k d))) (fun _ _ i _ => n - (intOf i).toNat)
 case atStart => exact ⟨0, .slice none 0 0, by omega, rfl, (Below.refl _ _).alloc (Nat.le_refl _) _, row_new rfl, ownK_nil _ _ _⟩
 case round =>
  obtain ⟨d, xl, hd, rfl, hb, hrow, ho⟩ := hrel
  have Hb := Lib.hid hb; clear hb
  have hws : w.heap.size < wr.heap.size := (Array.getElem?_eq_some_iff.1 hrow.out).1
  by_cases hdn : d < n
  · have hdk : d < k.length := by rw [Hl.out]; exact hdn
    obtain ⟨bb, oo, rfl⟩ := HE.out.some (by omega)
    obtain ⟨x, m, c, y, m', c', hq⟩ := HE.out.fix hdn
    have Hq := Lib.hid hq
    have hraw := HR.out _ (nthF_mem hdk)
    have hfit := HF.out _ (nthF_mem hdk)
    have hcan := HC.out _ (nthF_mem hdk)
    have Hfl := Lib.hid (Hk1.out _ (nthF_mem hdk))
    have hst := grpTo_succ hdk
    unfold stepG at hst
    rw [Hself.out _ (nthF_mem hdk)] at hst
    have Hst := Lib.hid hst
    have HOg := Lib.hid (grpTo_grp HR.out d)
    have HOs := Lib.hid (HS.out d)
    have HOf := Lib.hid (HGf.out d)
    have HOp := Lib.hid (grpTo_pw HR.out d)
    have hal : Below wr.heap.size wr (wr.alloc (.cells #[.slice x m c, .slice y m' c'] 39)) := (Below.refl _ _).alloc (Nat.le_refl _) _
    obtain ⟨q1, q2, q3, q4⟩ := hq wr Hb.out
    have hV := Lib.hid (vecCanon_can y m' c' (nthF k d).2 _ (q4.below hal) hcan hfit)
    have Hcl := Lib.hid hraw.lt.vec
    have Hil := Lib.hid (show (nthF k d).1.length = m from q2.len)
    have HI := Lib.hid q2
    have Hg := Lib.hid (fun (h : ¬ ((nthF k d).2 = [] ∨ (nthF k d).1 = [])) => show GrpF ((nthF k d).1, (nthF k d).2) from ⟨hraw.good, fun e => h (.inr e), hraw.lt.items, hcan, fun e => h (.inl e), hraw.lt.vec⟩)
    have Hft := Lib.hid hfit
    have h0 : (0 : Int) ≤ d := by omega
    have h04 : (d : Int) < (n : Int) := by omega
    have HX := Lib.hid (box2' wr (.slice x m c) (.slice y m' c') 39)
    obtain ⟨x0, x1⟩ := HX.out _ (Below.refl _ _)
    have Hal := Lib.hid hal
    clear hq hraw hfit hcan hst hal q2 q4
    generalize grpTo k d = O at *
    generalize nthF k d = f at *
    obtain ⟨fi, fv⟩ := f
    simp only at hV Hst Hcl Hil HI Hg Hft Hfl
    go_wp2_with fail
    refine hV.out.mono ?_
    rintro e w1 ⟨⟨yv, rfl, hov⟩, hb1⟩
    have Ha1 := Lib.hid (Hal.out.trans (hb1.mono Hal.out.size))
    have Hw1 := Lib.hid (Hb.out.trans (Ha1.out.mono Hb.out.size))
    have HoO := Lib.hid (ho.out.below Ha1.out)
    have Hr1 := Lib.hid ((Ha1.out.block w.heap.size hws).trans hrow.out)
    have HI1 := Lib.hid (HI.out.below Ha1.out)
    obtain ⟨va, vc, rfl, hV⟩ := hov.entsT (base' := 0) Hcl.out
    have HV := Lib.hid hV
    obtain ⟨x0, x1⟩ := HX.out _ hb1
    clear hov hV q1 q3 hb1
    obtain ⟨L, hL⟩ : ∃ L, L = fv.length := ⟨_, rfl⟩
    rw [← hL] at HV ⊢
    have HL := Lib.hid hL
    clear hL
    by_cases hemp : fv = [] ∨ fi = []
    · rw [if_pos hemp] at Hst
      by_cases hL0 : L = 0
      · have hz : ¬ 0 < L := by omega
        clear hemp hL0
        go_wp2
        go_roundw
        case rel => exact ⟨d + 1, xl, by omega, by go_num, Hw1.out, Hr1, by rw [Hst.out]; exact HoO.out⟩
        case measure => simp [intOf]; omega
      · have hz : 0 < L := by omega
        have hm0 : m = 0 := by
         rcases hemp with h | h
         · exact absurd (by rw [HL.out, h]; rfl) hL0
         · rw [← Hil.out, h]; rfl
        have hz2 : ¬ 0 < m := by omega
        clear hemp hL0 hm0
        go_wp2
        go_roundw
        case rel => exact ⟨d + 1, xl, by omega, by go_num, Hw1.out, Hr1, by rw [Hst.out]; exact HoO.out⟩
        case measure => simp [intOf]; omega
    · rw [if_neg hemp] at Hst
      have hz : 0 < L := by
       rcases Nat.eq_zero_or_pos L with h | h
       · exact absurd (.inl (List.length_eq_zero_iff.1 (by have := HL.out; omega))) hemp
       · omega
      have hz2 : 0 < m := by
       rcases Nat.eq_zero_or_pos m with h | h
       · exact absurd (.inr (List.length_eq_zero_iff.1 (by have := Hil.out; omega))) hemp
       · omega
      have hgf := Hg.out hemp
      have hA := Lib.hid (listAdd_any w.heap.size (w.heap.size + 1) xl O (fi, fv) x m c va L vc w1 Hr1.out (Nat.lt_succ_self _) (by have := Ha1.out.size; omega) HoO.out HI1.out HV.out HOg.out hgf HOp.out HOf.out Hft.out (by have := HOs.out; omega) (by have := HOs.out; have := Hfl.out; simp only; omega))
      clear hemp hgf
      go_wp2_with fail
      refine hA.out.mono ?_
      rintro e w3 ⟨rfl, ⟨x', hr3, ho3⟩, hk3⟩
      have Hr3 := Lib.hid hr3; have Ho3 := Lib.hid ho3
      have Hb3 := Lib.hid (show Below w.heap.size w w3 from Hw1.out.trans (hk3.toBelow (fun j hj => ⟨by omega, by omega⟩) (by have := Ha1.out.size; omega)))
      clear hr3 ho3 hk3
      go_wp2
      go_roundw
      case rel => exact ⟨d + 1, x', by omega, by go_num, Hb3.out, Hr3, by rw [Hst.out]; exact Ho3.out⟩
      case measure => simp [intOf]; omega
  · obtain rfl : d = n := by omega
    have Ho := Lib.hid ho.out
    rw [← Hl.out, Hall.out] at Ho
    have hc := box_cell hrow.out
    go_wp2
    go_ret
    exact ⟨⟨_, rfl, Ho.out.lower (Nat.le_succ _)⟩, Hb.out⟩
theorem canCanon_any (a : Option Addr) (n cap : Nat) (k : Kno) (w : World) (hE : Frags w a n cap k) (hJ : Joins k) (hS : (startsK k).length ≤ 10000) :
 Calls Tryz.prog 36 #[.slice a n cap] w fun x w' => (∃ y, x = .returned y ∧ OwnK w' w.heap.size 0 y (canonK k)) ∧ Below w.heap.size w w' := by
 have hC := Lib.hid (refine_any a n cap k w hE hJ hS)
 have hp : (piecesK k).length ≤ 10000 := by
  have h1 := pieceTo_len k (startsK k).length
  rw [pieceTo_all] at h1
  omega
 have hl : (refineK k).length ≤ 50000 := by unfold refineK; rw [List.length_map]; omega
 have hs : isum (refineK k) ≤ 50000 := by unfold refineK; rw [isum_ref k k]; omega
 have hv : ∀ f ∈ refineK k, VecFits f.2 ∧ CanV f.2 := fun f hf => by
  unfold refineK at hf
  obtain ⟨s, hs, rfl⟩ := List.mem_map.1 hf
  obtain ⟨c1, c2, _⟩ := atK_can hJ.lt s.1
  have h1 : VecFits (atK k s.1) := by rw [← atTo_all]; exact hJ.fits.at_ _ _
  exact ⟨h1, c1⟩
 have hG := Lib.hid (fun a c w' (h : Frags w' a (refineK k).length c (refineK k)) => group_any a _ c (refineK k) w' h (refine_raw hJ.lt) (fun f hf => (hv f hf).1) (fun f hf => (hv f hf).2) hs hl)
 have Hck := Lib.hid (show canonK k = groupK (refineK k) from rfl)
 clear hE hJ hS hl hs hv hp
 go_enter Tryz.func36, Tryz.ntmps36
 go_wp2_with fail
 refine hC.out.mono ?_
 rintro e w1 ⟨⟨v, rfl, ho⟩, hb⟩
 have Hb := Lib.hid hb
 obtain ⟨a1, c1, rfl, h1⟩ := ho.frags
 have H1 := Lib.hid h1
 clear ho hb h1
 go_wp2_with fail
 refine (hG.out a1 c1 w1 H1.out).mono ?_
 rintro e w2 ⟨⟨v, rfl, ho⟩, hb⟩
 have Ho := Lib.hid ho; have Hb2 := Lib.hid hb
 clear ho hb
 go_wp2
 go_ret
 exact ⟨⟨v, rfl, by rw [Hck.out]; exact Ho.out.lower Hb.out.size⟩, Hb.out.trans (Hb2.out.mono Hb.out.size)⟩
theorem seg_diff {k : Kno} (hc : CanK k) : DiffOk (segL k) 0 := by
 obtain ⟨-, -, h3⟩ := segTo_ok k k.length (Nat.le_refl _)
 have hp := List.pairwise_iff_getElem.1 (seg_next hc)
 intro i hi
 rw [segL_len] at hi
 rw [segL_at hi]
 refine ⟨(hc.items _ (nthF_mem (h3 _ (List.getElem_mem hi)).1)).1.ok _ (h3 _ (List.getElem_mem hi)).2, fun h0 => ?_⟩
 have := (hp (i - 1) i (by omega) hi (by omega)).1
 rw [segL_at (by omega)]
 omega
theorem segX_lt {k : Kno} {i : Nat} (h : i < (segK k).length) : nth ((segK k).map (·.2)) i < k.length := by
 obtain ⟨-, -, h3⟩ := segTo_ok k k.length (Nat.le_refl _)
 have e : nth ((segK k).map (·.2)) i = (segK k)[i].2 := by simp [nth, h]
 rw [e]
 exact (h3 _ (List.getElem_mem h)).1
theorem segsTo_len (l : List Iv) (x : List Nat) : ∀ d, (segsTo l x d).length = 1 + 3 * d
 | 0 => rfl
 | d + 1 => by rw [segsTo, List.length_append, segsTo_len l x d]; simp; omega
set_option maxRecDepth 100000 in
set_option maxHeartbeats 8000000 in
theorem encode_any (a : Option Addr) (n cap : Nat) (k : Kno) (w : World) (hE : Frags w a n cap k) (hD : Door w) (hck : ckF k = none) (hJ : Joins k) (hS : (startsK k).length ≤ 10000) (hk : LtK (canonK k)) (hcan : CanK (canonK k)) (hI : isum (canonK k) ≤ 10000) (hF : ∀ f ∈ canonK k, VecFits f.2) (hB : ∀ d, d ≤ (canonK k).length → (vecsTo (canonK k) d).length ≤ 600000000000) (hN : (canonK k).length ≤ 10000) :
 Calls Tryz.prog 57 #[.slice a n cap] w fun x w' => (∃ v, x = .returned (.tuple #[v, .nilIface]) ∧ OwnB w' w.heap.size v (wireN (canonK k))) ∧ Below w.heap.size w w' := by
 have hC := scoCheck_any a n cap k w hE hD
 rw [hck] at hC
 simp only [errOf, errVal] at hC
 have HC := Lib.hid hC
 have HE := Lib.hid (fun W (h : Below w.heap.size w W) => hE.below h)
 have HCn := Lib.hid (fun W (h : Below w.heap.size w W) => canCanon_any a n cap k W (hE.below h) hJ hS)
 have Hdf := Lib.hid (seg_diff hcan)
 have Hcan := Lib.hid hcan; have Hk := Lib.hid hk; have HF := Lib.hid hF; have HB := Lib.hid hB; have HI := Lib.hid hI; have HN := Lib.hid hN
 have Hgood := Lib.hid (show ∀ f ∈ canonK k, Good f.1 from fun f hf => (hcan.items f hf).1)
 have Hsl := Lib.hid (show (segK (canonK k)).length ≤ 10000 from by
  have := segTo_len (canonK k) (canonK k).length (Nat.le_refl _)
  rw [List.take_length] at this
  unfold segK
  omega)
 clear hC hE hD hck hJ hS hk hcan hI hF hB
 generalize canonK k = c at *
 go_enter Tryz.func57, Tryz.ntmps57
 go_wp2_with fail
 refine HC.out.mono ?_
 rintro e w0 ⟨rfl, hb0⟩
 have Hb0 := Lib.hid hb0; clear hb0
 go_wp2_with fail
 refine (HCn.out _ Hb0.out).mono ?_
 rintro e w1 ⟨⟨y, rfl, ho⟩, hb1⟩
 obtain ⟨a1, c1, rfl, hK⟩ := ho.frags
 have HK := Lib.hid hK
 have Hb1 := Lib.hid (Hb0.out.trans (hb1.mono Hb0.out.size)); clear hb1 ho hK
 obtain ⟨N, hNe⟩ : ∃ N, N = c.length := ⟨_, rfl⟩
 have HNe := Lib.hid hNe
 rw [← hNe] at HK HN hN HB ⊢
 clear hNe
 have hcv : IntKind.u64.wrap (N : Int) = (N : Int) := by rw [IntKind.wrap_u64]; omega
 go_wp2_with fail
 refine (putG_any w1.heap.size _ [] N w1 (by omega) (ownB_nil _ _) (Nat.le_refl _) (by simp)).mono ?_
 rintro e w2 ⟨b2, rfl, ho2, hg2⟩
 have Hb2 := Lib.hid (hg2.toBelow (Nat.le_refl _) (fun k h => by simp [Value.ownBlock] at h))
 have Ho2 := Lib.hid (show OwnB w2 w1.heap.size b2 (vecsTo c 0) from by rw [HNe.out] at ho2; exact ho2)
 clear ho2 hg2
 go_wp2
 go_loopw [6, 8, 29] (fun b _ i wr => ∃ d : Nat, d ≤ N ∧ i = .int .i64 d ∧ Below w1.heap.size w1 wr ∧ Hid (OwnB wr w1.heap.size b (vecsTo c d))) (fun _ _ i _ => N - (intOf i).toNat)
 case atStart => exact ⟨0, by omega, rfl, Hb2.out, Ho2⟩
 case round =>
  obtain ⟨d, hd, rfl, hb, hor⟩ := hrel
  have Hb := Lib.hid hb; clear hb
  by_cases hdn : d < N
  · have hdc : d < c.length := by rw [← HNe.out]; exact hdn
    obtain ⟨bb, oo, rfl⟩ := HK.out.some (by omega)
    obtain ⟨x, m, cx, y, m', c', hq⟩ := HK.out.fix hdn
    obtain ⟨q1, -, q3, -⟩ := hq _ Hb.out
    have hE1 := (hq _ (Below.refl _ _)).2.2.2
    have hmem := nthF_mem hdc
    have hfit := HF.out _ hmem
    have hcv2 := (Hcan.out.vec _ hmem).1
    have hal : Below wr.heap.size wr (wr.alloc (.cells #[.slice x m cx, .slice y m' c'] 39)) := (Below.refl _ _).alloc (Nat.le_refl _) _
    have hbw := Hb.out.trans (hal.mono Hb.out.size)
    have HP := Lib.hid (packApp_any w1 _ _ y m' c' (nthF c d).2 _ hE1 hbw hcv2.asc (fun e he => (hcv2.ent e he).good) (by have := hfit.len; have := hE1.len; omega) hfit.holes (hor.out.below hal) (HB.out d (by omega)))
    have Hst := Lib.hid (show vecsTo c (d + 1) = vecsTo c d ++ packN (nthF c d).2 from rfl)
    have Hbw := Lib.hid hbw
    have Hlt := Lib.hid (hor.out.below hal).lt
    have h0 : (0 : Int) ≤ d := by omega
    have h04 : (d : Int) < (N : Int) := by omega
    clear hq hE1 hmem hfit hcv2 hal hbw
    generalize packN (nthF c d).2 = pk at *
    generalize vecsTo c d = P0 at *
    go_wp2_with fail
    refine HP.out.mono ?_
    rintro e w3 ⟨b3, rfl, ho3, hg3⟩
    have Ho3 := Lib.hid ho3
    have Hb3 := Lib.hid (Hbw.out.trans (hg3.toBelow Hbw.out.size (fun k h => (Hlt.out k h).1))); clear ho3 hg3
    go_wp2
    go_roundw
    case rel => exact ⟨d + 1, by omega, by go_num, Hb3.out, by rw [Hst.out]; exact Ho3.out⟩
    case measure => simp [intOf]; omega
  · obtain rfl : d = N := by omega
    have HSg := Lib.hid (segments_any a1 d c1 c wr (HK.out.below Hb.out) Hgood.out HI.out)
    have HoV := Lib.hid hor.out
    obtain ⟨wV, hwV⟩ : ∃ wV : World, wV = wr := ⟨_, rfl⟩
    rw [← hwV] at Hb HoV HSg ⊢
    clear hwV hor
    generalize u6 = bV at *
    go_wp2_with fail
    refine HSg.out.mono ?_
    rintro e w4 ⟨⟨l, al, cl, gi, rfl, hp, hasc, hIv, hix⟩, hb4⟩
    obtain ⟨e1, e2⟩ := seg_same Hcan.out hp hasc
    obtain rfl : l = segL c := e1
    rw [e2] at hix
    have Hb4 := Lib.hid (Hb.out.trans (hb4.mono Hb.out.size))
    have HoV4 := Lib.hid (HoV.out.below hb4)
    have HlV := Lib.hid (show ∀ k, bV.ownBlock = some k → w1.heap.size ≤ k ∧ k < wV.heap.size from HoV.out.lt)
    have HsV := Lib.hid hb4.size
    have Hix := Lib.hid hix
    obtain ⟨S, hS⟩ : ∃ S, S = (segL c).length := ⟨_, rfl⟩
    have HSe := Lib.hid hS
    rw [← hS] at hIv Hix ⊢
    have hS4 : S ≤ 10000 := by have := Hsl.out; rw [hS, segL_len]; exact this
    have HDi := Lib.hid (diffs_any al S cl 0 (segL c) w4 hIv Hdf.out (by omega) (by omega))
    have Hdl := Lib.hid (show ∀ y ∈ diffsN (segL c) 0, y < 18446744073709551616 from diffsTo_lt hIv.lt _ (Nat.le_refl _))
    clear hp hasc hIv hix e2 hb4 HSg HoV hS
    rw [show ((0 : Nat) : Int) = 0 from rfl] at HDi
    go_wp2_with fail
    refine HDi.out.mono ?_
    rintro e w5 ⟨⟨vd, rfl, hod⟩, hb5⟩
    have Hb5 := Lib.hid (Hb4.out.trans (hb5.mono Hb4.out.size))
    have HoV5 := Lib.hid (HoV4.out.below hb5)
    have Hix5 := Lib.hid (own_below Hix.out hb5)
    have Hod := Lib.hid hod
    have hcvS : IntKind.u64.wrap (S : Int) = (S : Int) := by rw [IntKind.wrap_u64]; omega
    have hl5 : (vecsTo c d).length ≤ 1000000000000 := by have := HB.out d (Nat.le_refl _); omega
    have Hs4 := Lib.hid hb5.size
    clear hb5 hod
    go_wp2_with fail
    refine (putG_any w1.heap.size _ _ S w5 (by omega) HoV5.out Hb5.out.size hl5).mono ?_
    rintro e w6 ⟨b6, rfl, ho6, hg6⟩
    have Ho6 := Lib.hid (show OwnB w6 w1.heap.size b6 (vecsTo c d ++ segsTo (segL c) ((segK c).map (·.2)) 0) from by rw [HSe.out] at ho6; exact ho6)
    have Hg6 := Lib.hid hg6
    clear ho6 hg6
    have hrowX := Lib.hid (fun W b (h : Grw w5 W bV b) => h.row Hix5.out (fun k hk e => by
     have h1 : gi = k := by simpa [Value.ownBlock] using hk
     have h2 := (HlV.out k e).2
     have h3 := (Hix.out.lt gi rfl).1
     omega))
    have hrowD := Lib.hid (fun W b (h : Grw w5 W bV b) => h.row Hod.out (fun k hk e => by
     have h2 := (HlV.out k e).2
     have h3 := (Hod.out.lt k hk).1
     have := HsV.out
     omega))
    have Hxl := Lib.hid (show ∀ t, t < S → nth ((segK c).map (·.2)) t < 10001 from fun t ht => by
     have := segX_lt (k := c) (i := t) (by rw [← segL_len, ← HSe.out]; exact ht)
     have := HNe.out
     omega)
    have Hxlen := Lib.hid (show ((segK c).map (·.2)).length = S from by rw [List.length_map, ← segL_len]; exact HSe.out.symm)
    have Hdat := Lib.hid (show ∀ t, t < S → nth (diffsN (segL c) 0) (2 * t) = gapI (segL c) 0 t ∧ nth (diffsN (segL c) 0) (2 * t + 1) = (nthI (segL c) t).2 - (nthI (segL c) t).1 from fun t ht => diffsTo_at _ _ _ t (by rw [← HSe.out]; exact ht))
    have Hdlen := Lib.hid (show (diffsN (segL c) 0).length = 2 * S from by unfold diffsN; rw [diffsTo_len, ← HSe.out])
    have Hend := Lib.hid (show wireN c = vecsTo c d ++ segsTo (segL c) ((segK c).map (·.2)) S from by
     unfold wireN
     rw [← HNe.out, HSe.out, segL_len]
     rfl)
    have Hstep := Lib.hid (fun t => show segsTo (segL c) ((segK c).map (·.2)) (t + 1) = segsTo (segL c) ((segK c).map (·.2)) t ++ [gapI (segL c) 0 t, (nthI (segL c) t).2 - (nthI (segL c) t).1, nth ((segK c).map (·.2)) t] from rfl)
    have Hbnd := Lib.hid (fun t (ht : t ≤ S) => show (vecsTo c d ++ segsTo (segL c) ((segK c).map (·.2)) t).length ≤ 900000000000 from by
     rw [List.length_append, segsTo_len]
     have := HB.out d (Nat.le_refl _)
     omega)
    have hb15 := Hb5.out.size
    have hs15 : w1.heap.size ≤ w5.heap.size := hb15
    have Hfin := Lib.hid (fun W b (h : Grw w5 W bV b) => show Below w.heap.size w W from Hb1.out.trans ((Hb5.out.trans (h.toBelow hs15 (fun k hk => (HlV.out k hk).1))).mono Hb1.out.size))
    have Hb1s := Lib.hid Hb1.out.size
    clear hb15 HE HCn Hdf Hk HF HI Hgood Hsl HB Hcan HK HoV4 HoV5 Hix Hix5 Hod Hs4 HsV HlV Hb Hb4 Hb5 Hb0 HDi Hb2 Ho2 HC
    generalize (segK c).map (·.2) = XS at *
    generalize segL c = LS at *
    generalize vecsTo c d = P0 at *
    rcases Nat.eq_zero_or_pos S with hS0 | hS0
    · subst hS0
      have HeF := Lib.hid (show OwnB w6 w.heap.size b6 (wireN c) from by rw [Hend.out]; exact own_mono Ho6.out Hb1s.out)
      have HbF := Lib.hid (Hfin.out _ _ Hg6.out)
      clear hrowX hrowD Hxl Hdat Hstep Hbnd Hend Hfin Ho6 Hg6
      go_wp2
      go_loopw [6, 13, 14, 55] (fun b _ _ i wi => i = .int .i64 0 ∧ b = b6 ∧ wi = w6) (fun _ _ _ _ _ => 0)
      case atStart => exact ⟨rfl, rfl, rfl⟩
      case round =>
       obtain ⟨rfl, rfl, rfl⟩ := hrel
       go_wp2
       go_ret2
       exact ⟨⟨_, rfl, HeF.out⟩, HbF.out⟩
    · obtain ⟨gd, cd, rfl, hgd, hgdl, -, -⟩ := own_form (hrowD.out _ _ Hg6.out) (by omega)
      go_wp2
      go_loopw [6, 13, 14, 55] (fun b _ _ i wi => ∃ t : Nat, t ≤ S ∧ i = .int .i64 t ∧ Hid (Grw w5 wi bV b) ∧ Hid (OwnB wi w1.heap.size b (P0 ++ segsTo LS XS t))) (fun _ _ _ i _ => S - (intOf i).toNat)
      case atStart => exact ⟨0, by omega, rfl, Hg6, Ho6⟩
      case round =>
       obtain ⟨t, ht, rfl, hgi, hoi⟩ := hrel
       by_cases htS : t < S
       · have qx := (hrowX.out _ _ hgi.out).cells (g := gi) rfl t _ (i64C_get XS t (by rw [Hxlen.out]; exact htS))
         rw [add_at, Nat.zero_add] at qx
         have cellsD := fun W b (h : Grw w5 W bV b) (j : Nat) (hj : j < 2 * S) => (hrowD.out W b h).cells (g := gd) rfl j _ (u64C_get (diffsN LS 0) j (by rw [Hdlen.out]; exact hj))
         obtain ⟨d1, d2⟩ := Hdat.out t htS
         have hxl := Hxl.out t htS
         have HD1 := Lib.hid (fun W b (h : Grw w5 W bV b) => show W.cell? ⟨gd, 2 * t, none⟩ = some (.int .u64 ((gapI LS 0 t : Nat) : Int)) from by
          have := cellsD W b h (2 * t) (by omega)
          rwa [add_at, Nat.zero_add, d1] at this)
         have HD2 := Lib.hid (fun W b (h : Grw w5 W bV b) => show W.cell? ⟨gd, 2 * t + 1, none⟩ = some (.int .u64 (((nthI LS t).2 - (nthI LS t).1 : Nat) : Int)) from by
          have := cellsD W b h (2 * t + 1) (by omega)
          rwa [add_at, Nat.zero_add, d2] at this)
         have l1 := Hdl.out _ (nth_mem (show 2 * t < (diffsN LS 0).length by rw [Hdlen.out]; omega))
         have l2 := Hdl.out _ (nth_mem (show 2 * t + 1 < (diffsN LS 0).length by rw [Hdlen.out]; omega))
         rw [d1] at l1
         rw [d2] at l2
         have Hst := Lib.hid (Hstep.out t)
         have Hbt := Lib.hid (Hbnd.out t ht)
         have hm1 : IntKind.i64.wrap (2 * (t : Int)) = ((2 * t : Nat) : Int) := by rw [IntKind.wrap_i64]; omega
         have hm2 : IntKind.i64.wrap (((2 * t : Nat) : Int) + 1) = ((2 * t + 1 : Nat) : Int) := by rw [IntKind.wrap_i64]; omega
         have h0 : (0 : Int) ≤ t := by omega
         have h04 : (t : Int) < (S : Int) := by omega
         have h1 : (0 : Int) ≤ ((2 * t : Nat) : Int) := by omega
         have h14 : ((2 * t : Nat) : Int) < ((2 * S : Nat) : Int) := by omega
         have h2 : (0 : Int) ≤ ((2 * t + 1 : Nat) : Int) := by omega
         have h24 : ((2 * t + 1 : Nat) : Int) < ((2 * S : Nat) : Int) := by omega
         have hs0 : w1.heap.size ≤ wr.heap.size := Nat.le_trans hs15 hgi.out.g.size
         have HC1 := Lib.hid (putG_any w1.heap.size _ _ (gapI LS 0 t) wr l1 hoi.out hs0 (by have := Hbt.out; omega))
         have q1 := HD1.out _ _ hgi.out
         have hcx : IntKind.u64.wrap ((nth XS t : Nat) : Int) = ((nth XS t : Nat) : Int) := by rw [IntKind.wrap_u64]; omega
         clear cellsD d1 d2
         generalize gapI LS 0 t = n1 at *
         generalize (nthI LS t).2 - (nthI LS t).1 = n2 at *
         generalize nth XS t = n3 at *
         generalize segsTo LS XS t = P1 at *
         generalize h2t : 2 * t = tt at *
         go_wp2_with fail
         refine HC1.out.mono ?_
         rintro e w7 ⟨b7, rfl, ho7, hg7⟩
         have hG7 := hgi.out.trans hg7
         have q2 := HD2.out _ _ hG7
         have HC2 := Lib.hid (putG_any w1.heap.size _ _ n2 w7 l2 ho7 (Nat.le_trans hs15 hG7.g.size) (by have := Hbt.out; simp only [List.length_append, List.length_cons, List.length_nil] at this ⊢; omega))
         have HG7 := Lib.hid hG7
         clear ho7 hg7 hG7 q1
         go_wp2_with fail
         refine HC2.out.mono ?_
         rintro e w8 ⟨b8, rfl, ho8, hg8⟩
         have hG8 := HG7.out.trans hg8
         have HC3 := Lib.hid (putG_any w1.heap.size _ _ n3 w8 (by omega) ho8 (Nat.le_trans hs15 hG8.g.size) (by have := Hbt.out; simp only [List.length_append, List.length_cons, List.length_nil] at this ⊢; omega))
         have HG8 := Lib.hid hG8
         clear ho8 hg8 hG8 q2
         go_wp2_with fail
         refine HC3.out.mono ?_
         rintro e w9 ⟨b9, rfl, ho9, hg9⟩
         have HG9 := Lib.hid (HG8.out.trans hg9)
         have Ho9 := Lib.hid ho9
         clear ho9 hg9
         go_wp2
         go_roundw
         case rel => exact ⟨t + 1, by omega, by go_num, HG9.out, by rw [Hst.out]; exact (by simpa using Ho9.out : OwnB _ _ _ (P0 ++ (P1 ++ [n1, n2, n3])))⟩
         case measure => simp [intOf]; omega
       · obtain rfl : t = S := by omega
         have HeF := Lib.hid (show OwnB wr w.heap.size _ (wireN c) from by rw [Hend.out]; exact own_mono hoi.out Hb1s.out)
         have HbF := Lib.hid (Hfin.out _ _ hgi.out)
         go_wp2
         go_ret2
         exact ⟨⟨_, rfl, HeF.out⟩, HbF.out⟩
def maxN (f : Nat → Nat) : Nat → Nat
 | 0 => 0
 | d + 1 => max (maxN f d) (f d)
def holesN (v : Vec) : Nat := maxN (fun i => (nthE v i).2.2.length) v.length
def leastL (c : Kno) : Lim := (((joinB (wireN c)).length : Nat), (c.length : Nat), (maxN (fun i => (nthF c i).2.length) c.length : Nat), (maxN (fun i => holesN (nthF c i).2) c.length : Nat), ((segK c).length : Nat))
theorem least21_any (er mx : Nat) (x : Option Addr) (m c : Nat) (w : World) : Calls Tryz.prog 62 #[.agg #[.int .u64 er, .int .u64 mx, .slice x m c]] w fun e w' => e = .returned (.int .i64 m) ∧ Below w.heap.size w w' := by
 go_enter Tryz.func62, Tryz.ntmps62
 go_wp2
 go_ret
 exact ⟨rfl, (Below.refl _ _).alloc (Nat.le_refl _) _⟩
theorem least1_any (x y : Option Addr) (m c m' c' : Nat) (w : World) : Calls Tryz.prog 59 #[.agg #[.slice x m c, .slice y m' c']] w fun e w' => e = .returned (.int .i64 m') ∧ Below w.heap.size w w' := by
 go_enter Tryz.func59, Tryz.ntmps59
 go_wp2
 go_ret
 exact ⟨rfl, (Below.refl _ _).alloc (Nat.le_refl _) _⟩
set_option maxRecDepth 20000 in
theorem greatestE_any (a : Option Addr) (n c : Nat) (v : Vec) (w : World) (hE : Ents w a n c v) : Calls Tryz.prog 61 #[.slice a n c, .func (.func 62) #[] #[]] w fun e w' => e = .returned (.int .i64 ((holesN v : Nat) : Int)) ∧ Below w.heap.size w w' := by
 have HE := Lib.hid hE
 have hm : n ≤ 9223372036854775807 := Nat.le_trans hE.room hE.most
 have Hh := Lib.hid (show holesN v = maxN (fun i => (nthE v i).2.2.length) n from by unfold holesN; rw [hE.len])
 clear hE
 go_enter Tryz.func61, Tryz.ntmps61
 go_wp2
 go_loopw [5, 7, 10] (fun o _ i wr => ∃ d : Nat, d ≤ n ∧ i = .int .i64 d ∧ o = .int .i64 ((maxN (fun i => (nthE v i).2.2.length) d : Nat) : Int) ∧ Below w.heap.size w wr) (fun _ _ i _ => n - (intOf i).toNat)
 case atStart => exact ⟨0, by omega, rfl, rfl, Below.refl _ _⟩
 case round =>
  obtain ⟨d, hd, rfl, rfl, hb⟩ := hrel
  have Hb := Lib.hid hb; clear hb
  by_cases hdn : d < n
  · obtain ⟨bb, oo, rfl⟩ := HE.out.some (by omega)
    obtain ⟨x, m, c', hq⟩ := HE.out.fix hdn
    obtain ⟨q1, q2, q3, hI⟩ := hq _ Hb.out
    have Hml := Lib.hid (show maxN (fun i => (nthE v i).2.2.length) (d + 1) = max (maxN (fun i => (nthE v i).2.2.length) d) m from by rw [maxN, hI.len])
    have h0 : (0 : Int) ≤ d := by omega
    have h04 : (d : Int) < (n : Int) := by omega
    clear hq hI
    generalize nthE v d = e at *
    obtain ⟨er, mx, eh⟩ := e
    simp only at q1 q2 q3
    generalize maxN (fun i => (nthE v i).2.2.length) d = p at *
    have Hal := Lib.hid (Hb.out.alloc Hb.out.size (.cells #[.int .u64 er, .int .u64 mx, .slice x m c'] 71))
    go_wp2_with fail
    refine (least21_any er mx x m c' _).mono ?_
    rintro e w1 ⟨rfl, hb1⟩
    have Hb1 := Lib.hid (Hal.out.trans (hb1.mono Hal.out.size)); clear hb1
    go_wp2
    go_roundw
    case rel => exact ⟨d + 1, by omega, by go_num, by rw [Hml.out]; congr 1; omega, Hb1.out⟩
    case measure => simp [intOf]; omega
  · obtain rfl : d = n := by omega
    go_wp2
    go_ret
    exact ⟨by rw [Hh.out]; rfl, Hb.out⟩
set_option maxRecDepth 20000 in
theorem least2_any (x y : Option Addr) (m c m' c' : Nat) (v : Vec) (w : World) (hE : Ents w y m' c' v) : Calls Tryz.prog 60 #[.agg #[.slice x m c, .slice y m' c']] w fun e w' => e = .returned (.int .i64 ((holesN v : Nat) : Int)) ∧ Below w.heap.size w w' := by
 have hal : Below w.heap.size w (w.alloc (.cells #[.slice x m c, .slice y m' c'] 39)) := (Below.refl _ _).alloc (Nat.le_refl _) _
 have HC := Lib.hid (greatestE_any y m' c' v _ (hE.below hal))
 have Hal := Lib.hid hal
 clear hE hal
 go_enter Tryz.func60, Tryz.ntmps60
 go_wp2_with fail
 refine HC.out.mono ?_
 rintro e w1 ⟨rfl, hb1⟩
 have Hb1 := Lib.hid (Hal.out.trans (hb1.mono Hal.out.size)); clear hb1
 go_wp2
 go_ret
 exact ⟨rfl, Hb1.out⟩
set_option maxRecDepth 20000 in
theorem greatF1_any (a : Option Addr) (n c : Nat) (k : Kno) (w : World) (hE : Frags w a n c k) : Calls Tryz.prog 58 #[.slice a n c, .func (.func 59) #[] #[]] w fun e w' => e = .returned (.int .i64 ((maxN (fun i => (nthF k i).2.length) n : Nat) : Int)) ∧ Below w.heap.size w w' := by
 have HE := Lib.hid hE
 have hm : n ≤ 9223372036854775807 := Nat.le_trans hE.room hE.most
 clear hE
 go_enter Tryz.func58, Tryz.ntmps58
 go_wp2
 go_loopw [5, 7, 10] (fun o _ i wr => ∃ d : Nat, d ≤ n ∧ i = .int .i64 d ∧ o = .int .i64 ((maxN (fun i => (nthF k i).2.length) d : Nat) : Int) ∧ Below w.heap.size w wr) (fun _ _ i _ => n - (intOf i).toNat)
 case atStart => exact ⟨0, by omega, rfl, rfl, Below.refl _ _⟩
 case round =>
  obtain ⟨d, hd, rfl, rfl, hb⟩ := hrel
  have Hb := Lib.hid hb; clear hb
  by_cases hdn : d < n
  · obtain ⟨bb, oo, rfl⟩ := HE.out.some (by omega)
    obtain ⟨x, m, cx, y, m', c', hq⟩ := HE.out.fix hdn
    obtain ⟨q1, -, q3, hV⟩ := hq _ Hb.out
    have Hml := Lib.hid (show maxN (fun i => (nthF k i).2.length) (d + 1) = max (maxN (fun i => (nthF k i).2.length) d) (m') from by rw [maxN, hV.len])
    have h0 : (0 : Int) ≤ d := by omega
    have h04 : (d : Int) < (n : Int) := by omega
    have hal : Below wr.heap.size wr (wr.alloc (.cells #[.slice x m cx, .slice y m' c'] 39)) := (Below.refl _ _).alloc (Nat.le_refl _) _
    have Hal := Lib.hid (Hb.out.trans (hal.mono Hb.out.size))
    have HC := Lib.hid (least1_any x y m cx m' c' (wr.alloc (.cells #[.slice x m cx, .slice y m' c'] 39)))
    clear hq hV hal
    generalize maxN (fun i => (nthF k i).2.length) d = p at *
    go_wp2_with fail
    refine HC.out.mono ?_
    rintro e w1 ⟨rfl, hb1⟩
    have Hb1 := Lib.hid (Hal.out.trans (hb1.mono Hal.out.size)); clear hb1
    go_wp2
    go_roundw
    case rel => exact ⟨d + 1, by omega, by go_num, by rw [Hml.out]; congr 1; omega, Hb1.out⟩
    case measure => simp [intOf]; omega
  · obtain rfl : d = n := by omega
    go_wp2
    go_ret
    exact ⟨rfl, Hb.out⟩
set_option maxRecDepth 20000 in
theorem greatF2_any (a : Option Addr) (n c : Nat) (k : Kno) (w : World) (hE : Frags w a n c k) : Calls Tryz.prog 58 #[.slice a n c, .func (.func 60) #[] #[]] w fun e w' => e = .returned (.int .i64 ((maxN (fun i => holesN (nthF k i).2) n : Nat) : Int)) ∧ Below w.heap.size w w' := by
 have HE := Lib.hid hE
 have hm : n ≤ 9223372036854775807 := Nat.le_trans hE.room hE.most
 clear hE
 go_enter Tryz.func58, Tryz.ntmps58
 go_wp2
 go_loopw [5, 7, 10] (fun o _ i wr => ∃ d : Nat, d ≤ n ∧ i = .int .i64 d ∧ o = .int .i64 ((maxN (fun i => holesN (nthF k i).2) d : Nat) : Int) ∧ Below w.heap.size w wr) (fun _ _ i _ => n - (intOf i).toNat)
 case atStart => exact ⟨0, by omega, rfl, rfl, Below.refl _ _⟩
 case round =>
  obtain ⟨d, hd, rfl, rfl, hb⟩ := hrel
  have Hb := Lib.hid hb; clear hb
  by_cases hdn : d < n
  · obtain ⟨bb, oo, rfl⟩ := HE.out.some (by omega)
    obtain ⟨x, m, cx, y, m', c', hq⟩ := HE.out.fix hdn
    obtain ⟨q1, -, q3, hV⟩ := hq _ Hb.out
    have Hml := Lib.hid (show maxN (fun i => holesN (nthF k i).2) (d + 1) = max (maxN (fun i => holesN (nthF k i).2) d) (holesN (nthF k d).2) from by rw [maxN])
    have h0 : (0 : Int) ≤ d := by omega
    have h04 : (d : Int) < (n : Int) := by omega
    have hal : Below wr.heap.size wr (wr.alloc (.cells #[.slice x m cx, .slice y m' c'] 39)) := (Below.refl _ _).alloc (Nat.le_refl _) _
    have Hal := Lib.hid (Hb.out.trans (hal.mono Hb.out.size))
    have HC := Lib.hid (least2_any x y m cx m' c' (nthF k d).2 _ (hV.below hal))
    clear hq hV hal
    generalize maxN (fun i => holesN (nthF k i).2) d = p at *
    generalize holesN (nthF k d).2 = z at *
    go_wp2_with fail
    refine HC.out.mono ?_
    rintro e w1 ⟨rfl, hb1⟩
    have Hb1 := Lib.hid (Hal.out.trans (hb1.mono Hal.out.size)); clear hb1
    go_wp2
    go_roundw
    case rel => exact ⟨d + 1, by omega, by go_num, by rw [Hml.out]; congr 1; omega, Hb1.out⟩
    case measure => simp [intOf]; omega
  · obtain rfl : d = n := by omega
    go_wp2
    go_ret
    exact ⟨rfl, Hb.out⟩
theorem vecsTo_len {c : Kno} (h : ∀ f ∈ c, VecFits f.2) : ∀ d, d ≤ c.length → (vecsTo c d).length ≤ 1 + 301000 * d
 | 0, _ => by simp [vecsTo]
 | d + 1, hd => by
   have h1 := vecsTo_len h d (by omega)
   have hf := h _ (nthF_mem (show d < c.length from hd))
   have h2 := packTo_len (nthF c d).2 hf.holes (nthF c d).2.length (Nat.le_refl _)
   have h3 := hf.len
   rw [vecsTo, List.length_append]
   unfold packN
   omega
end
end Go.Proofs.YtkkdlgcfcbaibaaGreatDoor
