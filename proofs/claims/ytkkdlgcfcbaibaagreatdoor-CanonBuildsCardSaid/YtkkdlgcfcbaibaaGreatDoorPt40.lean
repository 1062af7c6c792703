/- Walks and laws, merged: part 40. -/
import Derived.Test.YtkkdlgcfcbaibaaGreatDoorPt36
import Derived.Test.YtkkdlgcfcbaibaaGreatDoorPt21
import Derived.Test.YtkkdlgcfcbaibaaGreatDoorPt39
import Derived.Test.YtkkdlgcfcbaibaaGreatDoorPt28
import Derived.Test.YtkkdlgcfcbaibaaGreatDoorPt11
import Derived.Test.YtkkdlgcfcbaibaaGreatDoorPt12
import Derived.Test.YtkkdlgcfcbaibaaGreatDoorPt20
section
namespace Go.Proofs.YtkkdlgcfcbaibaaGreatDoor
open Go.RowKit
set_option linter.unusedVariables false

/-- Behind B nothing but what is the call's own has turned; row p stays. -/
def HoldR (B p : Nat) (C : Obj) (wA w' : World) : Prop := Below B wA w' ∧ w'.heap[p]? = some C
theorem HoldR.refl {B p : Nat} {C : Obj} {wA : World} (h : wA.heap[p]? = some C) : HoldR B p C wA wA := ⟨Below.refl _ _, h⟩
theorem HoldR.le {B p : Nat} {C : Obj} {wA w' : World} (h : HoldR B p C wA w') : wA.heap.size ≤ w'.heap.size := h.1.size
theorem HoldR.drew {B p : Nat} {C : Obj} {wA w' : World} (h : HoldR B p C wA w') : HoldR B p C wA w'.drew := ⟨h.1.drew, h.2⟩
theorem HoldR.alloc {B p : Nat} {C : Obj} {wA w' : World} (h : HoldR B p C wA w') (hB : B ≤ wA.heap.size) (o : Obj) : HoldR B p C wA (w'.alloc o) := ⟨h.1.alloc (Nat.le_trans hB h.1.size) o, row_old h.2⟩
theorem HoldR.below {B p : Nat} {C : Obj} {wA w' w'' : World} (h : HoldR B p C wA w') (hB : B ≤ wA.heap.size) (hb : Below w'.heap.size w' w'') : HoldR B p C wA w'' :=
  ⟨h.1.trans (hb.mono (Nat.le_trans hB h.1.size)), (hb.block p (Array.getElem?_eq_some_iff.1 h.2).1).trans h.2⟩

theorem HoldR.grown {B p : Nat} {C : Obj} {wA w' w'' : World} {row : Option Nat} (h : HoldR B p C wA w') (hB : B ≤ wA.heap.size) (hg : w'.grownBy w'' row) (hr : ∀ j, row = some j → B ≤ j ∧ j < p) : HoldR B p C wA w'' :=
  ⟨h.1.grown hg (Nat.le_trans hB h.1.size) (fun j hj => (hr j hj).1), (hg.block p (Array.getElem?_eq_some_iff.1 h.2).1 (fun e => by have := (hr p e.symm).2; omega)).trans h.2⟩

set_option maxRecDepth 20000 in
set_option maxHeartbeats 4000000 in
theorem refine_any (a : Option Addr) (n cap : Nat) (k : Kno) (w : World) (hE : Frags w a n cap k) (hJ : Joins k) (hS : (startsK k).length ≤ 10000) :
    Calls Tryz.prog 69 #[.slice a n cap] w fun x w' => (∃ y, x = .returned y ∧ OwnK w' w.heap.size 0 y (refineK k)) ∧ Below w.heap.size w w' := by
  have HE := Lib.hid hE; have HJ := Lib.hid hJ
  have hC := Lib.hid (pcs_any a n cap k w hE hJ.lt hJ.fits hJ.good hS)
  have Hall := Lib.hid (refTo_all k)
  have HLn := Lib.hid (show (piecesK k).length ≤ 10000 from by
    have h1 := pieceTo_len k (startsK k).length
    rw [pieceTo_all] at h1
    omega)
  have hPl : Lt64 (piecesK k) := fun s hs => by
    have := pieces_mem hJ.lt hs
    exact ⟨by omega, this.2.1⟩
  have HPl := Lib.hid hPl
  clear hE hJ hS hPl
  go_enter Tryz.func69, Tryz.ntmps69
  go_wp2_with fail
  refine hC.out.mono ?_
  rintro e w1 ⟨⟨v, rfl, ho⟩, hb1⟩
  have Hb1 := Lib.hid hb1
  obtain ⟨aU, cU, rfl, hU⟩ := ivs_own ho HPl.out
  have HU := Lib.hid hU
  clear hb1 ho hU hC
  obtain ⟨N, hN⟩ : ∃ N, N = (piecesK k).length := ⟨_, rfl⟩
  have HN := Lib.hid hN
  rw [← hN] at HU HLn Hall ⊢
  clear hN
  have hN2 : N ≤ 10000 := HLn.out
  go_wp2
  go_loopw [3, 5, 9] (fun y _ i wr => ∃ d : Nat, d ≤ N ∧ i = .int .i64 d ∧ Below w1.heap.size w1 wr ∧ Hid (OwnK wr w1.heap.size 0 y (refTo k d))) (fun _ _ i _ => N - (intOf i).toNat)
  case atStart => exact ⟨0, by omega, rfl, Below.refl _ _, ownK_nil _ _ _⟩
  case round =>
    obtain ⟨d, hd, rfl, hb, ho⟩ := hrel
    have Hb := Lib.hid hb; clear hb
    have Hbw := Lib.hid (Hb1.out.trans (Hb.out.mono Hb1.out.size))
    by_cases hdN : d < N
    · have hcl := HU.out.room
      have HUr := HU.out.below Hb.out
      obtain ⟨bS, oS, rfl, hcS⟩ := HUr.cells (by omega)
      obtain ⟨q1, q2⟩ := hcS d hdN
      have Hst := Lib.hid (refTo_succ (k := k) (d := d) (by rw [← HN.out]; exact hdN))
      have Hpl := Lib.hid (refTo_len k d)
      rw [← HN.out] at Hpl
      have Hs := Lib.hid (HPl.out _ (nthI_mem (show d < (piecesK k).length by rw [← HN.out]; exact hdN)))
      generalize refTo k d = R0 at *
      generalize nthI (piecesK k) d = s at *
      obtain ⟨sx, sy⟩ := s
      simp only at q1 q2 Hst Hs
      have hz0 : w.heap.size ≤ w1.heap.size := Hb1.out.size
      have hz1 : w1.heap.size ≤ wr.heap.size := Hb.out.size
      have Hlv := Lib.hid (atK_can HJ.out.lt sx).2.1
      have hrA : (wr.alloc (.cells #[.int .u64 sx, .int .u64 sy] 73)).heap[wr.heap.size]? = some (.cells #[.int .u64 sx, .int .u64 sy] 73) := row_new rfl
      have hal : Below wr.heap.size wr (wr.alloc (.cells #[.int .u64 sx, .int .u64 sy] 73)) := (Below.refl _ _).alloc (Nat.le_refl _) _
      have hoA := ho.out.below hal
      have HlA := Lib.hid (ho.out.lt)
      have HbA := Lib.hid (Hb.out.trans (hal.mono hz1))
      have hsA : (wr.alloc (.cells #[.int .u64 sx, .int .u64 sy] 73)).heap.size = wr.heap.size + 1 := by simp
      have h0 : (0 : Int) ≤ d := by omega
      have h04 : (d : Int) < (N : Int) := by omega
      clear hcS HUr hal
      go_wp2_with fail
      clear q1 q2
      obtain ⟨p, hp⟩ : ∃ p, p = wr.heap.size := ⟨_, rfl⟩
      rw [← hp] at hrA hsA HlA ⊢
      generalize wr.alloc (.cells #[.int .u64 sx, .int .u64 sy] 73) = wA at *
      have Hp := Lib.hid hp
      have hpz : w1.heap.size ≤ p := by omega
      have hzA : w1.heap.size ≤ wA.heap.size := by omega
      have HoA := Lib.hid hoA
      have HrA := Lib.hid hrA
      have HsA := Lib.hid hsA
      clear hp hoA hz1
      have r1 : ∀ w', HoldR w1.heap.size p (.cells #[.int .u64 sx, .int .u64 sy] 73) wA w' → w'.cell? ⟨p, 0, none⟩ = some (.int .u64 sx) := fun w' h => cells_cell h.2 rfl
      have r2 : ∀ w', HoldR w1.heap.size p (.cells #[.int .u64 sx, .int .u64 sy] 73) wA w' → w'.cell? ⟨p, 1, none⟩ = some (.int .u64 sy) := fun w' h => cells_cell h.2 rfl
      have hAt := Lib.hid (fun w' (h : HoldR w1.heap.size p (.cells #[.int .u64 sx, .int .u64 sy] 73) wA w') => scoAt_any a n cap sx k w' (HE.out.below (Hb1.out.trans ((HbA.out.trans h.1).mono hz0))) HJ.out)
      generalize atK k sx = V at *
      have hR0 : HoldR w1.heap.size p (.cells #[.int .u64 sx, .int .u64 sy] 73) wA wA := HoldR.refl hrA
      clear hrA hsA
      go_region_held3 (fun w' => HoldR w1.heap.size p (.cells #[.int .u64 sx, .int .u64 sy] 73) wA w') (first | assumption | exact HoldR.drew (by assumption) | exact HoldR.alloc (by assumption) hzA _) (first
        | (go_at_call 111
           refine (hAt.out _ (by assumption)).mono ?_
           rintro e w4 ⟨⟨y4, rfl, ho4⟩, hb4⟩
           have hS4 : HoldR w1.heap.size p (.cells #[.int .u64 sx, .int .u64 sy] 73) wA w4 := HoldR.below (by assumption) hzA hb4
           have hT4 : Below wA.heap.size wA w4 := Below.trans (by first | exact (Below.refl _ _).drew | exact ((Below.refl _ _).drew).alloc (by simp) _ | exact ((Below.refl _ _).alloc (Nat.le_refl _) _).drew) (hb4.mono (HoldR.le (B := w1.heap.size) (p := p) (C := .cells #[.int .u64 sx, .int .u64 sy] 73) (by assumption)))
           have Ho4 := Lib.hid (HoA.out.below hT4)
           obtain ⟨ya, yc, rfl, hV⟩ := ho4.toOwnV.entsT (base' := 0) Hlv.out
           have HV := Lib.hid hV
           first
             | (have zr := row2_new hb4)
             | (have zr := row2_newd hb4)
             | skip
           clear hb4 ho4 hV hT4)
        | (refine step_append_frg rfl (.tmp 13) (.tmp 21) rfl rfl w1.heap.size 0 _ R0 rfl (Ho4.out.below (by first | exact (Below.refl _ _).alloc (Nat.le_refl _) _ | exact ((Below.refl _ _).alloc (Nat.le_refl _) _).alloc (by simp) _)) _ 1 1 [([(sx, sy)], V)] rfl [(_, _)] (partsT_one (ivSl_row (s := (sx, sy)) (by first | exact heap_at_old _ _ _ _ (heap_at_new _ _ _ rfl) | exact heap_at_old _ _ _ _ zr) Hs.out 0) ⟨_, _, _, rfl, HV.out.steady (P := fun _ => True) (.of_below (by first | exact (Below.refl _ _).alloc (Nat.le_refl _) _ | exact ((Below.refl _ _).alloc (Nat.le_refl _) _).alloc (by simp) _)) trivial trivial⟩) rfl (rd_block (heap_at_new _ _ _ (by simp)) rfl rfl) (by have := Hpl.out; simp; omega) (by have := hS4.1.size; simp; omega) (Nat.zero_le _) ?_
           intro v8 w8 ho8 hg8 _
           have hS8 : HoldR w1.heap.size p (.cells #[.int .u64 sx, .int .u64 sy] 73) wA w8 := HoldR.grown (by assumption) hzA hg8 (fun j hj => HlA.out j hj)))
      all_goals
        go_wp2
        go_roundw
        case rel => exact ⟨d + 1, by omega, by go_num, HbA.out.trans hS8.1, by rw [Hst.out]; exact ho8⟩
        case measure => simp [intOf]; omega
    · obtain rfl : d = N := by omega
      have Ho := Lib.hid ho.out
      rw [Hall.out] at Ho
      go_wp2
      go_ret
      exact ⟨⟨_, rfl, Ho.out.lower Hb1.out.size⟩, Hbw.out⟩

end Go.Proofs.YtkkdlgcfcbaibaaGreatDoor
end

section
namespace Go.Proofs.YtkkdlgcfcbaibaaGreatDoor
open Go.RowKit
set_option linter.unusedVariables false

theorem grpTo_pw {k : Kno} (h : ∀ f ∈ k, RawF f) (d : Nat) : (grpTo k d).Pairwise VecLt :=
  (group_fold (k := k.take d) (out := []) (fun f hf => h f (List.mem_of_mem_take hf)) (fun g hg => by cases hg) List.Pairwise.nil).2.1

set_option maxRecDepth 20000 in
set_option maxHeartbeats 4000000 in
theorem group_any (a : Option Addr) (n cap : Nat) (k : Kno) (w : World) (hE : Frags w a n cap k) (hR : ∀ f ∈ k, RawF f) (hF : ∀ f ∈ k, VecFits f.2) (hC : ∀ f ∈ k, CanV f.2) (hS : isum k ≤ 50000) (hn : n ≤ 50000) :
    Calls Tryz.prog 68 #[.slice a n cap] w fun x w' => (∃ y, x = .returned y ∧ OwnK w' w.heap.size 0 y (groupK k)) ∧ Below w.heap.size w w' := by
  have HE := Lib.hid hE; have HR := Lib.hid hR; have HF := Lib.hid hF; have HC := Lib.hid hC
  have Hl := Lib.hid hE.len
  have Hall := Lib.hid (grpTo_all k)
  have HS := Lib.hid (fun d => And.intro (Nat.le_trans (grpTo_sum hR d).1 hS) (Nat.le_trans (grpTo_sum hR d).2 (by rw [hE.len]; exact hn)))
  have Hk1 := Lib.hid (fun f (hf : f ∈ k) => Nat.le_trans (isum_mem hf) hS)
  have Hself := Lib.hid (fun f (hf : f ∈ k) => canonV_self (hR f hf).lt.vec (hC f hf))
  have HGf := Lib.hid (grpTo_fits (k := k) (fun f hf => by rw [canonV_self (hR f hf).lt.vec (hC f hf)]; exact hF f hf))
  clear hE hR hF hC hS
  go_enter Tryz.func68, Tryz.ntmps68
  go_wp2
  go_loopw [6, 7, 11] (fun _ _ i wr => ∃ (d : Nat) (x : Value), d ≤ n ∧ i = .int .i64 d ∧ Below w.heap.size w wr ∧ Hid (wr.heap[w.heap.size]? = some (.cells #[x] 160 (0, 0))) ∧ Hid (OwnK wr (w.heap.size + 1) 0 x (grpTo k d))) (fun _ _ i _ => n - (intOf i).toNat)
  case atStart => exact ⟨0, .slice none 0 0, by omega, rfl, (Below.refl _ _).alloc (Nat.le_refl _) _, row_new rfl, ownK_nil _ _ _⟩
  case round =>
    obtain ⟨d, xl, hd, rfl, hb, hrow, ho⟩ := hrel
    have Hb := Lib.hid hb; clear hb
    have hws : w.heap.size < wr.heap.size := (Array.getElem?_eq_some_iff.1 hrow.out).1
    by_cases hdn : d < n
    · have hdk : d < k.length := by rw [Hl.out]; exact hdn
      obtain ⟨bb, oo, rfl⟩ := HE.out.some (by omega)
      obtain ⟨x, m, c, y, m', c', hq⟩ := HE.out.fix hdn
      have Hq := Lib.hid hq
      have hraw := HR.out _ (nthF_mem hdk)
      have hfit := HF.out _ (nthF_mem hdk)
      have hcan := HC.out _ (nthF_mem hdk)
      have Hfl := Lib.hid (Hk1.out _ (nthF_mem hdk))
      have hst := grpTo_succ hdk
      unfold stepG at hst
      rw [Hself.out _ (nthF_mem hdk)] at hst
      have Hst := Lib.hid hst
      have HOg := Lib.hid (grpTo_grp HR.out d)
      have HOs := Lib.hid (HS.out d)
      have HOf := Lib.hid (HGf.out d)
      have HOp := Lib.hid (grpTo_pw HR.out d)
      have hal : Below wr.heap.size wr (wr.alloc (.cells #[.slice x m c, .slice y m' c'] 39)) := (Below.refl _ _).alloc (Nat.le_refl _) _
      obtain ⟨q1, q2, q3, q4⟩ := hq wr Hb.out
      have hV := Lib.hid (vecCanon_can y m' c' (nthF k d).2 _ (q4.below hal) hcan hfit)
      have Hcl := Lib.hid hraw.lt.vec
      have Hil := Lib.hid (show (nthF k d).1.length = m from q2.len)
      have HI := Lib.hid q2
      have Hg := Lib.hid (fun (h : ¬ ((nthF k d).2 = [] ∨ (nthF k d).1 = [])) => show GrpF ((nthF k d).1, (nthF k d).2) from ⟨hraw.good, fun e => h (.inr e), hraw.lt.items, hcan, fun e => h (.inl e), hraw.lt.vec⟩)
      have Hft := Lib.hid hfit
      have h0 : (0 : Int) ≤ d := by omega
      have h04 : (d : Int) < (n : Int) := by omega
      have HX := Lib.hid (box2' wr (.slice x m c) (.slice y m' c') 39)
      obtain ⟨x0, x1⟩ := HX.out _ (Below.refl _ _)
      have Hal := Lib.hid hal
      clear hq hraw hfit hcan hst hal q2 q4
      generalize grpTo k d = O at *
      generalize nthF k d = f at *
      obtain ⟨fi, fv⟩ := f
      simp only at hV Hst Hcl Hil HI Hg Hft Hfl
      go_wp2_with fail
      refine hV.out.mono ?_
      rintro e w1 ⟨⟨yv, rfl, hov⟩, hb1⟩
      have Ha1 := Lib.hid (Hal.out.trans (hb1.mono Hal.out.size))
      have Hw1 := Lib.hid (Hb.out.trans (Ha1.out.mono Hb.out.size))
      have HoO := Lib.hid (ho.out.below Ha1.out)
      have Hr1 := Lib.hid ((Ha1.out.block w.heap.size hws).trans hrow.out)
      have HI1 := Lib.hid (HI.out.below Ha1.out)
      obtain ⟨va, vc, rfl, hV⟩ := hov.entsT (base' := 0) Hcl.out
      have HV := Lib.hid hV
      obtain ⟨x0, x1⟩ := HX.out _ hb1
      clear hov hV q1 q3 hb1
      obtain ⟨L, hL⟩ : ∃ L, L = fv.length := ⟨_, rfl⟩
      rw [← hL] at HV ⊢
      have HL := Lib.hid hL
      clear hL
      by_cases hemp : fv = [] ∨ fi = []
      · rw [if_pos hemp] at Hst
        by_cases hL0 : L = 0
        · have hz : ¬ 0 < L := by omega
          clear hemp hL0
          go_wp2
          go_roundw
          case rel => exact ⟨d + 1, xl, by omega, by go_num, Hw1.out, Hr1, by rw [Hst.out]; exact HoO.out⟩
          case measure => simp [intOf]; omega
        · have hz : 0 < L := by omega
          have hm0 : m = 0 := by
            rcases hemp with h | h
            · exact absurd (by rw [HL.out, h]; rfl) hL0
            · rw [← Hil.out, h]; rfl
          have hz2 : ¬ 0 < m := by omega
          clear hemp hL0 hm0
          go_wp2
          go_roundw
          case rel => exact ⟨d + 1, xl, by omega, by go_num, Hw1.out, Hr1, by rw [Hst.out]; exact HoO.out⟩
          case measure => simp [intOf]; omega
      · rw [if_neg hemp] at Hst
        have hz : 0 < L := by
          rcases Nat.eq_zero_or_pos L with h | h
          · exact absurd (.inl (List.length_eq_zero_iff.1 (by have := HL.out; omega))) hemp
          · omega
        have hz2 : 0 < m := by
          rcases Nat.eq_zero_or_pos m with h | h
          · exact absurd (.inr (List.length_eq_zero_iff.1 (by have := Hil.out; omega))) hemp
          · omega
        have hgf := Hg.out hemp
        have hA := Lib.hid (listAdd_any w.heap.size (w.heap.size + 1) xl O (fi, fv) x m c va L vc w1 Hr1.out (Nat.lt_succ_self _) (by have := Ha1.out.size; omega) HoO.out HI1.out HV.out HOg.out hgf HOp.out HOf.out Hft.out (by have := HOs.out; omega) (by have := HOs.out; have := Hfl.out; simp only; omega))
        clear hemp hgf
        go_wp2_with fail
        refine hA.out.mono ?_
        rintro e w3 ⟨rfl, ⟨x', hr3, ho3⟩, hk3⟩
        have Hr3 := Lib.hid hr3; have Ho3 := Lib.hid ho3
        have Hb3 := Lib.hid (show Below w.heap.size w w3 from Hw1.out.trans (hk3.toBelow (fun j hj => ⟨by omega, by omega⟩) (by have := Ha1.out.size; omega)))
        clear hr3 ho3 hk3
        go_wp2
        go_roundw
        case rel => exact ⟨d + 1, x', by omega, by go_num, Hb3.out, Hr3, by rw [Hst.out]; exact Ho3.out⟩
        case measure => simp [intOf]; omega
    · obtain rfl : d = n := by omega
      have Ho := Lib.hid ho.out
      rw [← Hl.out, Hall.out] at Ho
      have hc := box_cell hrow.out
      go_wp2
      go_ret
      exact ⟨⟨_, rfl, Ho.out.lower (Nat.le_succ _)⟩, Hb.out⟩

end Go.Proofs.YtkkdlgcfcbaibaaGreatDoor
end

section
namespace Go.Proofs.YtkkdlgcfcbaibaaGreatDoor
open Go.RowKit Go.Shelf
attribute [local go_sem] Oper.semAt_some wide_fn
set_option linter.unusedVariables false

/-- No number is in both lists. -/
def disjL (a b : List Iv) : Bool := decide (opL gAnd a b = [])

theorem pick_none {g : Bool → Bool → Bool} : ∀ {ps : List Pc}, (∀ p ∈ ps, g p.2.1 p.2.2 = false) → pickP g ps = [] := by
  intro ps
  unfold pickP
  have : ∀ (l : List (Iv × Bool)), (∀ q ∈ l, q.2 = false) → takeL l [] = [] := by
    intro l
    induction l with
    | nil => intro _; rfl
    | cons q l ih =>
      intro h
      obtain ⟨s, b⟩ := q
      have hb : b = false := h _ List.mem_cons_self
      subst hb
      exact ih fun r hr => h r (List.mem_cons_of_mem _ hr)
  intro h
  refine this _ fun q hq => ?_
  obtain ⟨p, hp, rfl⟩ := List.mem_map.1 hq
  exact h p hp

theorem disj_no {a b : List Iv} (ha : Lt64 a) (hb : Lt64 b) {x : Nat} (h1 : mem a x = true) (h2 : mem b x = true) : disjL a b = false := by
  unfold disjL
  rw [decide_eq_false_iff_not]
  intro h
  have := (opL_good (g := gAnd) ha hb rfl).2.1 x
  rw [h, h1, h2, mem_nil] at this
  cases this

set_option maxRecDepth 20000 in
set_option maxHeartbeats 4000000 in
theorem never_any (aa ab : Option Addr) (na ca nb cb : Nat) (a b : List Iv) (w : World) (hIa : Ivs w aa na ca a) (hIb : Ivs w ab nb cb b) (ga : Good a) (gb : Good b) :
    Calls Tryz.prog 165 #[.slice aa na ca, .slice ab nb cb, .agg #[.bool true, .bool true]] w fun e w' => e = .returned (.bool (disjL a b)) ∧ Below w.heap.size w w' := by
  have Hla := Lib.hid (show Lt64 a from hIa.lt); have Hlb := Lib.hid (show Lt64 b from hIb.lt)
  have HIa := Lib.hid hIa; have HIb := Lib.hid hIb; have Hga := Lib.hid ga; have Hgb := Lib.hid gb
  clear hIa hIb ga gb
  refine (callsIn_wide (n := 3)).1 ?_
  refine callsIn_of_wp_marks Tryz.func165 rfl trivial ?_ rfl
  simp only [Tryz.ntmps165, List.size_toArray, List.length_cons, List.length_nil, Nat.reduceAdd, Nat.reduceSub, Array.replicate_succ, Array.replicate_zero, List.push_toArray, List.append_toArray, List.nil_append, List.cons_append]
  refine wpIn_wide.2 ?_
  go_wp2_with (go_at_call 168; refine (pieces_any _ _ _ _ _ _ _).mono ?_; rintro e w1 ⟨rfl, rfl⟩)
  refine (wpIn_wide (n := 3)).1 ?_
  obtain ⟨C0, hC0⟩ : ∃ C0 : Obj, C0 = .cells #[.bool true, .bool true] 166 := ⟨_, rfl⟩
  obtain ⟨C1, hC1⟩ : ∃ C1 : Obj, C1 = .cells #[.bool false] 4 := ⟨_, rfl⟩
  obtain ⟨C2, hC2⟩ : ∃ C2 : Obj, C2 = .cells #[.slice aa na ca] 28 := ⟨_, rfl⟩
  obtain ⟨C3, hC3⟩ : ∃ C3 : Obj, C3 = .cells #[.slice ab nb cb] 28 := ⟨_, rfl⟩
  rw [← hC0, ← hC1, ← hC2, ← hC3]
  obtain ⟨wl, hwl⟩ : ∃ wl : World, wl = (((w.alloc C0).alloc C1).alloc C2).alloc C3 := ⟨_, rfl⟩
  rw [← hwl]
  have hsz : wl.heap.size = w.heap.size + 4 := by rw [hwl]; simp
  have hbw : Below w.heap.size w wl := by
    rw [hwl]
    exact ((((Below.refl _ w).alloc (Nat.le_refl _) C0).alloc (by simp) C1).alloc (by simp; omega) C2).alloc (by simp; omega) C3
  have e0 : wl.heap[w.heap.size]? = some C0 := by rw [hwl]; exact row_old (row_old (row_old (row_new rfl)))
  have e1 : wl.heap[w.heap.size + 1]? = some C1 := by rw [hwl]; exact row_old (row_old (row_new (by simp)))
  have e2 : wl.heap[w.heap.size + 2]? = some C2 := by rw [hwl]; exact row_old (row_new (by simp))
  have e3 : wl.heap[w.heap.size + 3]? = some C3 := by rw [hwl]; exact row_new (by simp)
  clear hwl
  refine wp_range (n := 3) (gf := 199) (lb := #[.pointer (some ⟨w.heap.size + 2, 0, none⟩), .pointer (some ⟨w.heap.size + 3, 0, none⟩)]) rfl (enters_of Tryz.func199 (by kernel_rfl) rfl)
    (pieces_seq (3 - 1) w wl (w.heap.size + 2) (w.heap.size + 3) a b Hga.out Hgb.out hbw ⟨aa, na, ca, by rw [e2, hC2], HIa.out⟩ ⟨ab, nb, cb, by rw [e3, hC3], HIb.out⟩ (by omega) (by omega) (by omega))
    (fun x => rfl) (fun k hk => by omega) (fun k hk => by omega)
    (fun pre W => W.heap[w.heap.size]? = some C0 ∧ W.heap[w.heap.size + 1]? = some C1 ∧ Below w.heap.size w W ∧ ∀ p ∈ pre, gAnd p.2.1 p.2.2 = false)
    (fun cd pre W => cd = .ret ∧ W.heap[w.heap.size + 1]? = some (.cells #[.bool false] 4) ∧ Below w.heap.size w W ∧ disjL a b = false) ?hI ?hIx ⟨e0, e1, hbw, fun p hp => by cases hp⟩ ?round ?done ?stop
  case hI =>
    rintro s A B ⟨h1, h2, h4, h3⟩ hk
    have hs := h4.size
    exact ⟨(hk.row _ (Array.getElem?_eq_some_iff.1 h1).1 (by omega)).trans h1, (hk.row _ (Array.getElem?_eq_some_iff.1 h2).1 (by omega)).trans h2, h4.trans (hk.toBelow (fun k hk' => by omega) (by omega)), h3⟩
  case hIx =>
    rintro cd s A B ⟨h0, h2, h4, h3⟩ hk
    have hs := h4.size
    exact ⟨h0, (hk.row _ (Array.getElem?_eq_some_iff.1 h2).1 (by omega)).trans h2, h4.trans (hk.toBelow (fun k hk' => by omega) (by omega)), h3⟩
  case round =>
    rintro pre ⟨⟨p, q⟩, x, y⟩ W ⟨Y, hV⟩ ⟨h1, h2, h4, h3⟩ hsW
    rw [hsz] at hsW ⊢
    clear hsz
    have hch := chn_init hV
    have hmx : mem a p = x ∧ mem b p = y := hch.2.2.2.2.1 p (Nat.le_refl _) hch.2.1
    have Hmx := Lib.hid hmx
    clear hV hch hmx hbw e0 e1 e2 e3 hC2 hC3
    have H3 := Lib.hid h3; have H4 := Lib.hid h4
    have h4s := h4.size
    clear h3 h4
    obtain ⟨m, hm⟩ : ∃ m : Nat, m = W.heap.size := ⟨_, rfl⟩
    simp only [pcE, ivV]
    gi_wp2
    refine ⟨(Kept.refl _ W).alloc _, fun W2 hk2 hs2 => ?_⟩
    try rw [World.size_alloc] at hs2
    have k1 : Kept (fun k => k ≠ w.heap.size + 4 + 1) W W2 := ((Kept.refl _ W).alloc _).trans hk2
    have b1 : W2.heap[w.heap.size]? = some C0 := (k1.row _ (Array.getElem?_eq_some_iff.1 h1).1 (by omega)).trans h1
    have b2 : W2.heap[w.heap.size + 1]? = some C1 := (k1.row _ (Array.getElem?_eq_some_iff.1 h2).1 (by omega)).trans h2
    have b4 : W2.heap[m]? = some (.cells #[.bool x, .bool y] 166) := by rw [hm]; exact (hk2.row _ (by simp) (by omega)).trans (row_new rfl)
    have B4 := Lib.hid (H4.out.trans (k1.toBelow (n := w.heap.size) (fun k hk' => by omega) (by omega)))
    rw [← hm]
    have Hb1 := Lib.hid b1; have Hb2 := Lib.hid b2
    rw [hC0] at b1
    rw [hC1] at b2
    have c0 : W2.cell? ⟨w.heap.size, 0, none⟩ = some (.bool true) := cells_cell (i := 0) b1 rfl
    have c1 : W2.cell? ⟨w.heap.size, 1, none⟩ = some (.bool true) := cells_cell (i := 1) b1 rfl
    have c2 : W2.cell? ⟨m, 0, none⟩ = some (.bool x) := cells_cell (i := 0) b4 rfl
    have c3 : W2.cell? ⟨m, 1, none⟩ = some (.bool y) := cells_cell (i := 1) b4 rfl
    have c4 := box_cell b2
    have c5 := box_frozen b2
    have HC := Lib.hid (And.intro hC0 hC1)
    clear k1 hk2 hs2 h1 h2 H4 b1 b2 b4 hC0 hC1 hm hsW
    cases hxy : gAnd x y with
    | true =>
      have hx : x = true := by cases x <;> simp [gAnd] at hxy ⊢
      have hy : y = true := by cases y <;> simp [gAnd] at hxy ⊢
      subst hx; subst hy
      have Hno := Lib.hid (disj_no Hla.out Hlb.out Hmx.out.1 Hmx.out.2)
      clear hxy
      gi_wp2
      refine ⟨(Kept.refl _ W2).setCell (fun _ => by simp only; omega) _, rfl, ?_, B4.out.setCell (by simp only; omega) _, Hno.out⟩
      have h := Hb2.out
      rw [HC.out.2] at h
      exact box_set h
    | false =>
      have Hpre := Lib.hid (show ∀ p' ∈ pre ++ [((p, q), x, y)], gAnd p'.2.1 p'.2.2 = false from fun p' hp' => by
        rcases List.mem_append.1 hp' with h | h
        · exact H3.out p' h
        · rw [List.mem_singleton] at h; rw [h]; exact hxy)
      cases x <;> cases y <;> first
        | (exfalso; simp [gAnd] at hxy; done)
        | (clear hxy
           gi_wp2
           exact ⟨Kept.refl _ W2, Hb1.out, Hb2.out, B4.out, Hpre.out⟩)
  case done =>
    rintro ps W hS ⟨h1, h2, h4, h3⟩ hK
    have hall := pickP_all (g := gAnd) Hla.out Hlb.out rfl hS
    rw [pick_none h3] at hall
    have Hd := Lib.hid (show disjL a b = true from by unfold disjL; rw [← hall]; rfl)
    rw [hC1] at h2
    have c4 := box_cell h2
    have c5 := box_frozen h2
    have H2 := Lib.hid h2; have H4 := Lib.hid h4; have HK := Lib.hid hK
    clear h1 h2 h3 h4 hS hK hall e0 e1 e2 e3
    gi_wp2
    go_wp2
    have hne : wl.heap.size ≠ w.heap.size + 1 := by omega
    refine ⟨by simp, .inl ⟨_, _, rfl, run_takeDeferred ((Below.heap_setCell _ _ _ _ hne).trans HK.out), ?_⟩⟩
    have h5 : ((W.setCell ⟨w.heap.size + 1, 0, none⟩ (.bool true)).putObj wl.heap.size (.deferred none)).heap[w.heap.size + 1]? = some (.cells #[.bool true] 4) := (World.putObj_heap_other (Ne.symm hne)).trans (box_set H2.out)
    have q5 := box_cell h5
    refine ⟨.bool true, by simp [results, Tryz.results165, go_sem, q5], by rw [Hd.out], ?_⟩
    exact H4.out.trans (((Kept.refl (fun k => k < w.heap.size) W).setCell (fun _ h => by have h' : w.heap.size + 1 < w.heap.size := h; omega) _ |>.putObj (fun _ h => by have h' : wl.heap.size < w.heap.size := h; omega) _).toBelow (fun _ h => h) H4.out.size)
  case stop =>
    rintro c pre W hV ⟨rfl, h2, h4, h3⟩ hK
    have c4 := box_cell h2
    have H4 := Lib.hid h4; have H3 := Lib.hid h3; have HK := Lib.hid hK
    gi_wp2
    refine ⟨by simp, .inl ⟨_, _, rfl, run_takeDeferred HK.out, ?_⟩⟩
    have h5 : (W.putObj wl.heap.size (.deferred none)).heap[w.heap.size + 1]? = some (.cells #[.bool false] 4) := (World.putObj_heap_other (by omega)).trans h2
    have q5 := box_cell h5
    refine ⟨.bool false, by simp [results, Tryz.results165, go_sem, q5], by rw [H3.out], ?_⟩
    exact H4.out.trans ((Kept.refl (fun k => k < w.heap.size) W).putObj (fun _ h => by have h' : wl.heap.size < w.heap.size := h; omega) _ |>.toBelow (fun _ h => h) H4.out.size)

theorem disjoint_any (aa ab : Option Addr) (na ca nb cb : Nat) (a b : List Iv) (w : World) (hIa : Ivs w aa na ca a) (hIb : Ivs w ab nb cb b) (ga : Good a) (gb : Good b) :
    Calls Tryz.prog 116 #[.slice aa na ca, .slice ab nb cb] w fun e w' => e = .returned (.bool (disjL a b)) ∧ Below w.heap.size w w' := by
  have hC := Lib.hid (never_any aa ab na ca nb cb a b w hIa hIb ga gb)
  clear hIa hIb ga gb
  generalize disjL a b = z at *
  go_enter Tryz.func116, Tryz.ntmps116
  go_wp2_with fail
  refine hC.out.mono ?_
  rintro e w1 ⟨rfl, hb⟩
  have Hb := Lib.hid hb
  clear hb
  go_wp2
  go_ret
  exact ⟨rfl, Hb.out⟩

end Go.Proofs.YtkkdlgcfcbaibaaGreatDoor
end
