/- Walks and laws, joined: La44. -/
import Derived.Test.YtkkdlgcfcbaibaaGreatDoorLa42
import Derived.Test.YtkkdlgcfcbaibaaGreatDoorLa43
import Derived.Test.YtkkdlgcfcbaibaaGreatDoorLa38
import Derived.Test.YtkkdlgcfcbaibaaGreatDoorLa39
import Derived.Test.YtkkdlgcfcbaibaaGreatDoorLa19
set_option linter.unusedVariables false
namespace Go.Proofs.YtkkdlgcfcbaibaaGreatDoor
section
open Go.RowKit
theorem segsTo_two (l : List Iv) (x : List Nat) (d : Nat) : segsTo l x (d + 1) = segsTo l x d ++ [gapI l 0 d] ++ [(nthI l d).2 - (nthI l d).1, nth x d] := by
 rw [segsTo, List.append_assoc]
 rfl
def GrwE (w w' : World) (v : Value) : Prop := ∃ y, Grw w w' v y
theorem GrwE.drew {w w' : World} {v : Value} (h : GrwE w w' v) : GrwE w w'.drew v := h.elim fun y h => ⟨y, h.below (Below.refl _ _).drew⟩
theorem GrwE.alloc {w w' : World} {v : Value} (h : GrwE w w' v) (o : Obj) : GrwE w (w'.alloc o) v := h.elim fun y h => ⟨y, h.alloc o⟩
structure EncK (c : Kno) : Prop where
 can : CanK c
 lt : LtK c
 vec : ∀ f ∈ c, VecFits f.2
 sum : isum c ≤ 1000
 len : c.length ≤ 1000
theorem vecs_bnd {c : Kno} (hK : EncK c) (d : Nat) (hd : d ≤ c.length) : (vecsTo c d).length ≤ 400000000 := by
 have h1 := vecsTo_len hK.vec d hd
 have h2 : 301000 * d ≤ 301000 * 1000 := Nat.mul_le_mul_left _ (Nat.le_trans hd hK.len)
 omega
set_option maxRecDepth 100000 in
set_option maxHeartbeats 8000000 in
theorem refNumbers19_any (a : Option Addr) (n cap : Nat) (c : Kno) (w : World) (hE : Frags w a n cap c) (hK : EncK c) :
 Calls Tryz.prog 104 #[.slice a n cap] w fun x w' => (∃ y, x = .returned y ∧ w'.ownsRow w.heap.size 24 1 y (wireN c).length (u64C (wireN c))) ∧ Below w.heap.size w w' := by
 have HE := Lib.hid hE
 have HK := Lib.hid hK
 have Hl := Lib.hid hE.len
 have hnn : n ≤ 1000 := by rw [← hE.len]; exact hK.len
 have Hlen := Lib.hid (fun d (hd : d ≤ c.length) => vecs_bnd hK d hd)
 have HSeg := Lib.hid (fun W (h : Below w.heap.size w W) => refSegments13_any a n cap c W (hE.below h) hK.sum hnn)
 have hw : IntKind.u64.wrap (n : Int) = (n : Int) := by rw [IntKind.wrap_u64]; omega
 have ho0 := World.ownsRow_lit (e := 24) (size := 1) (base := w.heap.size) w (u64C [n]).toArray 1 (Nat.le_refl _) (by unfold maxLen; omega) rfl
 have Ho0 := Lib.hid ho0
 have hb0 : Below w.heap.size w (w.alloc (.cells (u64C [n]).toArray 24)) := (Below.refl _ _).alloc (Nat.le_refl _) _
 clear hE hK ho0
 go_enter Tryz.func104, Tryz.ntmps104
 go_wp2
 go_loopw [3, 4] (fun y i wr => ∃ d : Nat, d ≤ n ∧ i = .int .i64 d ∧ Below w.heap.size w wr ∧ Hid (wr.ownsRow w.heap.size 24 1 y (vecsTo c d).length (u64C (vecsTo c d)))) (fun _ i _ => n - (intOf i).toNat)
 case atStart => exact ⟨0, by omega, rfl, hb0, by
  have := Ho0.out
  rw [show vecsTo c 0 = [n] from by rw [vecsTo, Hl.out]]
  exact this⟩
 case round =>
  obtain ⟨d, hd, rfl, hb, ho⟩ := hrel
  have Hb := Lib.hid hb; clear hb
  by_cases hdn : d < n
  · have hdc : d < c.length := by rw [Hl.out]; exact hdn
    obtain ⟨bb, oo, rfl⟩ := HE.out.some (by omega)
    obtain ⟨x, m, cx, y, m', c', hq⟩ := HE.out.fix hdn
    obtain ⟨-, -, q3, hEn⟩ := hq _ Hb.out
    have hmem := nthF_mem hdc
    have hcv := (HK.out.can.vec _ hmem).1
    have hfit := HK.out.vec _ hmem
    have HN := Lib.hid (refNumbers18_any y m' c' (nthF c d).2 wr hEn hcv.asc (fun e he => (hcv.ent e he).good) (by rw [← hEn.len]; exact hfit.len) hfit.holes)
    have Hst := Lib.hid (show vecsTo c (d + 1) = vecsTo c d ++ packN (nthF c d).2 from rfl)
    have hl1 := Hlen.out (d + 1) hdc
    rw [Hst.out, List.length_append] at hl1
    have h0 : (0 : Int) ≤ d := by omega
    have h04 : (d : Int) < (n : Int) := by omega
    clear hq hEn hmem hcv hfit
    generalize packN (nthF c d).2 = pk at *
    generalize vecsTo c d = P at *
    have hbnd : P.length + pk.length ≤ 1000000000000 := by omega
    clear hl1
    go_wp2_with fail
    refine HN.out.mono ?_
    rintro z w1 ⟨⟨v1, rfl, ho1⟩, hb1⟩
    obtain ⟨a1, c1, rfl⟩ := own_slice ho1
    have Hrd := Lib.hid (Rd.own ho1)
    have Ho1 := Lib.hid (own_below ho.out hb1)
    have hbb : Below w.heap.size w w1 := Hb.out.trans (hb1.mono Hb.out.size)
    clear ho1 hb1 q3
    go_wp2_with (at_builtin; refine wpList_append_u64B rfl (.tmp 18) (.tmp 24) rfl rfl w.heap.size _ _ _ rfl Ho1.out _ pk.length _ pk rfl Hrd.out hbnd hbb.size ?_; intro v2 w2 ho2 hg2)
    have hb2 := hbb.trans hg2
    clear hg2
    go_wp2
    go_roundw
    case rel => exact ⟨d + 1, by omega, by go_num, hb2, by
     rw [Hst.out, List.length_append]
     exact ho2⟩
    case measure => simp [intOf]; omega
  · obtain rfl : d = n := by omega
    have HSg := Lib.hid (HSeg.out wr Hb.out)
    have hl0 := Hlen.out d (by rw [Hl.out]; exact Nat.le_refl _)
    have HoV := Lib.hid ho.out
    obtain ⟨wV, hwV⟩ : ∃ wV : World, wV = wr := ⟨_, rfl⟩
    rw [← hwV] at Hb HoV HSg ⊢
    clear hwV ho
    have HcL := Lib.hid (show c.length = d from Hl.out)
    have hsl : (segK c).length ≤ 1000 := by
     have := segTo_len c c.length (Nat.le_refl _)
     rw [List.take_length] at this
     have := HK.out.sum
     unfold segK
     omega
    have HSlt := Lib.hid (show ∀ s ∈ segI (segK c), s.1 < 18446744073709551616 ∧ s.2 < 18446744073709551616 from fun s hs => by
     obtain ⟨p, hp, rfl⟩ := List.mem_map.1 hs
     obtain ⟨-, -, h3⟩ := segTo_ok c c.length (Nat.le_refl _)
     exact (HK.out.lt _ (nthF_mem (h3 p hp).1)).1 _ (h3 p hp).2)
    have HDf := Lib.hid (show DiffOk (segI (segK c)) 0 from by exact seg_diff HK.out.can)
    have HIx := Lib.hid (fun i (h : i < (segK c).length) => segX_lt (k := c) h)
    have Hend := Lib.hid (show wireN c = vecsTo c d ++ segsTo (segI (segK c)) (segX (segK c)) (segK c).length from by
     unfold wireN
     rw [HcL.out]
     rfl)
    generalize u3 = bV at *
    clear HSeg Hlen HK hb0 Ho0
    have HlV := Lib.hid (show ∀ k, bV.ownBlock = some k → w.heap.size ≤ k ∧ k < wV.heap.size from HoV.out.lt)
    go_wp2_with fail
    refine HSg.out.mono ?_
    rintro z w4 ⟨⟨vl, vx, rfl, hO2⟩, hb4⟩
    obtain ⟨al, cl, rfl⟩ := own_slice hO2.ivs
    obtain ⟨ax, cx, rfl⟩ := own_slice hO2.idx
    obtain ⟨S, hS⟩ : ∃ S, S = (segK c).length := ⟨_, rfl⟩
    have hSl : (segI (segK c)).length = S := by rw [hS]; unfold segI; rw [List.length_map]
    have hXl : (segX (segK c)).length = S := by rw [hS]; unfold segX; rw [List.length_map]
    have hRi := hO2.ivs; have hRx := hO2.idx
    rw [← hS] at hsl hRi hRx Hend HIx ⊢
    have hcvS : IntKind.u64.wrap (S : Int) = (S : Int) := by rw [IntKind.wrap_u64]; omega
    have hb4w := Hb.out.trans (hb4.mono Hb.out.size)
    have Ho4 := Lib.hid (own_below HoV.out hb4)
    have HRi := Lib.hid hRi; have HRx := Lib.hid hRx
    have HSl := Lib.hid hSl; have HXl := Lib.hid hXl
    have Hxl := Lib.hid (show ∀ t, t < S → nth (segX (segK c)) t < 1001 from fun t ht => by
     have := HIx.out t ht
     have := HcL.out
     unfold segX
     omega)
    have Hal4 := Lib.hid (Below.alloc (Below.refl w4.heap.size w4) (Nat.le_refl _) (.cells #[.int .u64 S] 24))
    clear hO2 hRi hRx hS hSl hXl HIx hb4 HSg HoV
    generalize segI (segK c) = LS at *
    generalize segX (segK c) = XS at *
    generalize vecsTo c d = P0 at *
    have hbnd0 : P0.length + 1 ≤ 1000000000000 := by omega
    have hzz : w.heap.size ≤ w4.heap.size := hb4w.size
    have HneI := Lib.hid (fun k (hk : (Value.slice al S cl).ownBlock = some k) => show bV.ownBlock ≠ some k from fun e => absurd (HlV.out k e).2 (Nat.not_lt.2 (HRi.out.lt k hk).1))
    have HneX := Lib.hid (fun k (hk : (Value.slice ax S cx).ownBlock = some k) => show bV.ownBlock ≠ some k from fun e => absurd (HlV.out k e).2 (Nat.not_lt.2 (HRx.out.lt k hk).1))
    have HeB := Lib.hid (fun W y (h : Grw w4 W bV y) => show Below w.heap.size w W from hb4w.trans (h.toBelow hzz (fun k hk => (HlV.out k hk).1)))
    clear HlV hb4w Hb
    go_wp2_with (at_builtin; refine wpList_append_u64G rfl (.tmp 31) (.tmp 35) rfl rfl w.heap.size _ _ _ rfl (own_below Ho4.out Hal4.out) _ 1 1 [S] rfl (rd_block (heap_at_new _ _ _ rfl) rfl rfl) hbnd0 (Nat.le_trans hzz Hal4.out.size) (by omega) ?_; intro v5 w5 ho5 hg5)
    have Hg5 := Lib.hid (((Grw.refl w4 bV).alloc _).trans hg5)
    have Ho5 := Lib.hid (show w5.ownsRow w.heap.size 24 1 v5 (P0 ++ segsTo LS XS 0).length (u64C (P0 ++ segsTo LS XS 0)) from by
     rw [show segsTo LS XS 0 = [S] from by rw [segsTo, HSl.out], List.length_append]
     exact ho5)
    clear hg5 ho5 Hal4 Ho4
    go_wp2
    go_loopw [3, 7] (fun y i wr => ∃ t : Nat, t ≤ S ∧ i = .int .i64 t ∧ Hid (Grw w4 wr bV y) ∧ Hid (wr.ownsRow w.heap.size 24 1 y (P0 ++ segsTo LS XS t).length (u64C (P0 ++ segsTo LS XS t)))) (fun _ i _ => S - (intOf i).toNat)
    case atStart => exact ⟨0, by omega, rfl, Hg5, Ho5⟩
    case round =>
     obtain ⟨t, ht, rfl, hgi, hoi⟩ := hrel
     by_cases htS : t < S
     · obtain ⟨gl, cl', hgl, -⟩ := own_form HRi.out (by omega)
       cases hgl
       obtain ⟨gx, cx', hgx, -⟩ := own_form HRx.out (by omega)
       cases hgx
       have HC := Lib.hid (fun w' (h : GrwE w4 w' bV) j (hj : j < S) => show w'.cell? ⟨gl, j * 2, none⟩ = some (.int .u64 (((nthI LS j).1 : Nat) : Int)) ∧ w'.cell? ⟨gl, j * 2 + 1, none⟩ = some (.int .u64 (((nthI LS j).2 : Nat) : Int)) ∧ w'.cell? ⟨gx, j, none⟩ = some (.int .i64 ((nth XS j : Nat) : Int)) from by
        obtain ⟨y, h⟩ := h
        obtain ⟨e1, e2⟩ := ivC_get LS j (by rw [HSl.out]; exact hj)
        have h1 := (h.row HRi.out HneI.out).cells (g := gl) rfl _ _ e1
        have h2 := (h.row HRi.out HneI.out).cells (g := gl) rfl _ _ e2
        have h3 := (h.row HRx.out HneX.out).cells (g := gx) rfl j _ (i64C_get XS j (by rw [HXl.out]; exact hj))
        rw [add_at, Nat.zero_add] at h1 h2 h3
        exact ⟨h1, h2, h3⟩)
       have hE : GrwE w4 wr bV := ⟨_, hgi.out⟩
       have r1 : ∀ w', GrwE w4 w' bV → w'.cell? ⟨gl, t * 2, none⟩ = some (.int .u64 (((nthI LS t).1 : Nat) : Int)) := fun w' h => (HC.out w' h t htS).1
       have r2 : ∀ w', GrwE w4 w' bV → w'.cell? ⟨gl, t * 2 + 1, none⟩ = some (.int .u64 (((nthI LS t).2 : Nat) : Int)) := fun w' h => (HC.out w' h t htS).2.1
       have r3 : ∀ w', GrwE w4 w' bV → w'.cell? ⟨gx, t, none⟩ = some (.int .i64 ((nth XS t : Nat) : Int)) := fun w' h => (HC.out w' h t htS).2.2
       have Hc' := Lib.hid (fun (h1 : t - 1 < S) => show ∀ w', GrwE w4 w' bV → w'.cell? ⟨gl, (t - 1) * 2 + 1, none⟩ = some (.int .u64 (((nthI LS (t - 1)).2 : Nat) : Int)) from fun w' h => (HC.out w' h (t - 1) h1).2.1)
       have hxl := Hxl.out t htS
       obtain ⟨g1, g2⟩ := HDf.out t (by rw [HSl.out]; exact htS)
       have l1 := HSlt.out _ (nthI_mem (l := LS) (k := t) (by rw [HSl.out]; exact htS))
       have Hst := Lib.hid (segsTo_two LS XS t)
       have Hg := Lib.hid (show gapI LS 0 t = if t = 0 then (nthI LS 0).1 else (nthI LS t).1 - (nthI LS (t - 1)).2 - 1 - 0 from rfl)
       have hg0 : t = 0 → nthI LS 0 = nthI LS t := fun h => by rw [h]
       have hln : (P0 ++ segsTo LS XS t).length + 1 ≤ 1000000000000 := by rw [List.length_append, segsTo_len]; omega
       have hln2 : (P0 ++ segsTo LS XS t).length + 1 + 2 ≤ 1000000000000 := by rw [List.length_append, segsTo_len]; omega
       have hcx : IntKind.u64.wrap ((nth XS t : Nat) : Int) = ((nth XS t : Nat) : Int) := by rw [IntKind.wrap_u64]; omega
       have hs0 : w.heap.size ≤ wr.heap.size := Nat.le_trans hzz hgi.out.g.size
       clear HC
       generalize gapI LS 0 t = gp at *
       generalize nthI LS 0 = s0 at *
       generalize nthI LS t = s at *
       generalize nthI LS (t - 1) = p at *
       generalize nth XS t = sx3 at *
       obtain ⟨sx, sy⟩ := s
       obtain ⟨px, py⟩ := p
       simp only at r1 r2 Hc' Hst Hg g1 g2 l1
       have hsz : IntKind.u64.wrap ((sy : Int) - (sx : Int)) = ((sy - sx : Nat) : Int) := by rw [IntKind.wrap_u64]; omega
       generalize sy - sx = sz at *
       generalize segsTo LS XS t = P1 at *
       have HoW := Lib.hid (fun W (h : Below wr.heap.size wr W) => own_below hoi.out h)
       rcases Nat.eq_zero_or_pos t with hd0 | hd0
       case' inl =>
        have hgp : gp = sx := by rw [Hg.out, if_pos hd0, hg0 hd0]
        have hq1 : ((t : Int) == 0) = true := by rw [beq_iff_eq]; omega
        have q1 := r1 _ hE
        have Hal := Lib.hid (Below.alloc (Below.refl wr.heap.size wr) (Nat.le_refl _) (.cells #[.int .u64 gp] 24))
        subst hgp
        clear Hc' g1 g2 l1 Hg hg0 hd0
        go_wp2_with (at_builtin; refine wpList_append_u64G rfl (.tmp 45) (.tmp 51) rfl rfl w.heap.size _ _ _ rfl (HoW.out _ Hal.out) _ 1 1 [gp] rfl (rd_block (heap_at_new _ _ _ rfl) rfl rfl) hln (Nat.le_trans hs0 Hal.out.size) (by omega) ?_; intro v1 w1 ho1 hg1)
        have HG1 := Lib.hid (((hgi.out.below Hal.out)).trans hg1)
        have hE1 : GrwE w4 w1 bV := ⟨_, HG1.out⟩
        clear hg1 q1 Hal
       case' inr =>
        have g2 := g2 hd0
        have hgp : gp = sx - py - 1 := by rw [Hg.out, if_neg (by omega)]; omega
        have hq1 : ((t : Int) == 0) = false := by rw [beq_eq_false_iff_ne]; omega
        have hsub : IntKind.i64.wrap ((t : Int) - 1) = ((t - 1 : Nat) : Int) := by rw [IntKind.wrap_i64]; omega
        have h01 : (0 : Int) ≤ ((t - 1 : Nat) : Int) := by omega
        have h03 : ((t - 1 : Nat) : Int) < (S : Int) := by omega
        have h0 : (0 : Int) ≤ t := by omega
        have h04 : (t : Int) < (S : Int) := by omega
        have r4 := Hc'.out (by omega)
        have hw1 : IntKind.u64.wrap ((sx : Int) - (py : Int)) = ((sx - py : Nat) : Int) := by rw [IntKind.wrap_u64]; omega
        have hw2 : IntKind.u64.wrap (((sx - py : Nat) : Int) - 1) = (gp : Int) := by rw [IntKind.wrap_u64, hgp]; omega
        clear Hc' g1 g2 l1 Hg hg0 hgp
        generalize sx - py = t1 at *
        generalize t - 1 = d1 at *
        go_wp2_with fail
        go_region_held3 (fun w' => GrwE w4 w' bV) (first | assumption | exact GrwE.drew (by assumption) | exact GrwE.alloc (by assumption) _) (first
         | (refine step_append_u64G rfl (.tmp 53) (.tmp 67) rfl rfl w.heap.size _ _ _ rfl (HoW.out _ (by first | exact ((Below.refl _ _).alloc (Nat.le_refl _) _).drew | exact ((Below.refl _ _).drew).alloc (by simp) _)) _ 1 _ [gp] rfl (rd_block (by first | exact heap_at_new _ _ _ (by simp) | exact heap_at_old _ _ _ _ (heap_at_new _ _ _ (by simp))) rfl rfl) hln (by simp <;> omega) (by omega) ?_
            intro v1 w1 ho1 hg1
            have HG1 := Lib.hid ((hgi.out.below (by first | exact ((Below.refl _ _).alloc (Nat.le_refl _) _).drew | exact ((Below.refl _ _).drew).alloc (by simp) _)).trans hg1)
            have hE1 : GrwE w4 w1 bV := ⟨_, HG1.out⟩))
        all_goals clear hg1 r4
        all_goals go_wp2_with fail
       all_goals
        have h0 : (0 : Int) ≤ t := by omega
        have h04 : (t : Int) < (S : Int) := by omega
        have hs1 : w.heap.size ≤ w1.heap.size := Nat.le_trans hzz HG1.out.g.size
        go_region_held3 (fun w' => GrwE w4 w' bV) (first | assumption | exact GrwE.drew (by assumption) | exact GrwE.alloc (by assumption) _) (first
         | (refine step_append_u64G rfl (.tmp 69) (.tmp 86) rfl rfl w.heap.size _ _ _ rfl (own_below ho1 (by first | exact ((Below.refl _ _).alloc (Nat.le_refl _) _).drew | exact ((Below.refl _ _).drew).alloc (by simp) _)) _ 2 _ [sz, sx3] rfl (rd_block (by first | exact heap_at_new _ _ _ (by simp) | exact heap_at_old _ _ _ _ (heap_at_new _ _ _ (by simp))) rfl rfl) hln2 (by simp <;> omega) (by omega) ?_
            intro v2 w2 ho2 hg2
            have HG2 := Lib.hid ((HG1.out.below (by first | exact ((Below.refl _ _).alloc (Nat.le_refl _) _).drew | exact ((Below.refl _ _).drew).alloc (by simp) _)).trans hg2)
            have hE2 : GrwE w4 w2 bV := ⟨_, HG2.out⟩))
        all_goals
         clear hg2
         go_wp2
         go_roundw
         case rel => exact ⟨t + 1, by omega, by go_num, HG2, by
          rw [Hst.out, ← List.append_assoc, ← List.append_assoc]
          exact own_len ho2 (by simp only [List.length_append, List.length_cons, List.length_nil])⟩
         case measure => simp [intOf]; omega
     · obtain rfl : t = S := by omega
       have Ho := Lib.hid hoi.out
       rw [← Hend.out] at Ho
       have HbF := Lib.hid (HeB.out _ _ hgi.out)
       go_wp2
       go_ret
       exact ⟨⟨_, rfl, Ho.out⟩, HbF.out⟩
theorem packTo_lt {v : Vec} (h : LtV v) (hh : ∀ e ∈ v, e.2.2.length ≤ 500) (hl : v.length ≤ 300) : ∀ d, d ≤ v.length → ∀ y ∈ packTo v d, y < 18446744073709551616
 | 0, _, y, hy => by
   simp [packTo] at hy
   subst hy
   omega
 | d + 1, hd, y, hy => by
   rw [packTo] at hy
   rcases List.mem_append.1 hy with hy | hy
   · exact packTo_lt h hh hl d (by omega) y hy
   · exact entN_lt h hh hd y hy
theorem wireN_lt {c : Kno} (hK : EncK c) : ∀ x ∈ wireN c, x < 18446744073709551616 := by
 have hv : ∀ d, d ≤ c.length → ∀ x ∈ vecsTo c d, x < 18446744073709551616 := by
  intro d
  induction d with
  | zero =>
   intro _ x hx
   simp [vecsTo] at hx
   subst hx
   have := hK.len
   omega
  | succ d ih =>
   intro hd x hx
   rw [vecsTo] at hx
   rcases List.mem_append.1 hx with hx | hx
   · exact ih (by omega) x hx
   · have hm := nthF_mem (show d < c.length from hd)
     have hf := hK.vec _ hm
     exact packTo_lt (hK.lt _ hm).vec hf.holes hf.len _ (Nat.le_refl _) x hx
 have hs : ∀ d, d ≤ (segK c).length → ∀ x ∈ segsTo ((segK c).map (·.1)) ((segK c).map (·.2)) d, x < 18446744073709551616 := by
  obtain ⟨-, -, h3⟩ := segTo_ok c c.length (Nat.le_refl _)
  have hll : (segK c).length ≤ 1000 := by
   have := segTo_len c c.length (Nat.le_refl _)
   rw [List.take_length] at this
   have := hK.sum
   unfold segK
   omega
  intro d
  induction d with
  | zero =>
   intro _ x hx
   simp [segsTo] at hx
   subst hx
   omega
  | succ d ih =>
   intro hd x hx
   rw [segsTo] at hx
   have hlt : ∀ i, i < (segK c).length → (nthI ((segK c).map (·.1)) i).1 < 18446744073709551616 ∧ (nthI ((segK c).map (·.1)) i).2 < 18446744073709551616 := fun i hi => by
    have e : nthI ((segK c).map (·.1)) i = (segK c)[i].1 := segL_at hi
    rw [e]
    exact (hK.lt _ (nthF_mem (h3 _ (List.getElem_mem hi)).1)).items _ (h3 _ (List.getElem_mem hi)).2
   rcases List.mem_append.1 hx with hx | hx
   · exact ih (by omega) x hx
   · simp at hx
     have h1 := hlt d (by omega)
     rcases hx with rfl | rfl | rfl
     · unfold gapI
       split
       · exact (hlt 0 (by omega)).1
       · omega
     · omega
     · have := segX_lt (k := c) (i := d) (by omega)
       have := hK.len
       omega
 intro x hx
 unfold wireN at hx
 rcases List.mem_append.1 hx with hx | hx
 · exact hv _ (Nat.le_refl _) x hx
 · exact hs _ (Nat.le_refl _) x hx
theorem wireN_len {c : Kno} (hK : EncK c) : (wireN c).length ≤ 900000000 := by
 have h1 := vecs_bnd hK c.length (Nat.le_refl _)
 have h2 := segTo_len c c.length (Nat.le_refl _)
 rw [List.take_length] at h2
 have := hK.sum
 have := hK.len
 unfold wireN
 rw [List.length_append, segsTo_len]
 unfold segK
 omega
set_option maxRecDepth 20000 in
theorem refBytes19_any (a : Option Addr) (n cap : Nat) (c : Kno) (w : World) (hE : Frags w a n cap c) (hK : EncK c) :
 Calls Tryz.prog 66 #[.slice a n cap] w fun x w' => (∃ y, x = .returned y ∧ OwnB w' w.heap.size y (wireN c)) ∧ Below w.heap.size w w' := by
 have HN := Lib.hid (refNumbers19_any a n cap c w hE hK)
 have HJ := Lib.hid (fun A cp W (h : Rd W 1 A (wireN c).length (u64C (wireN c))) => refJoin18_any A (wireN c).length cp (wireN c) W h rfl (wireN_lt hK) (by have := wireN_len hK; omega))
 clear hE hK
 go_enter Tryz.func66, Tryz.ntmps66
 go_wp2_with fail
 refine HN.out.mono ?_
 rintro z w1 ⟨⟨v1, rfl, ho1⟩, hb1⟩
 obtain ⟨a1, c1, rfl⟩ := own_slice ho1
 have HJ1 := Lib.hid (HJ.out a1 c1 w1 (Rd.own ho1))
 have Hb1 := Lib.hid hb1
 clear ho1 hb1 HN HJ
 go_wp2_with fail
 refine HJ1.out.mono ?_
 rintro z w2 ⟨⟨v2, rfl, ho2⟩, hb2⟩
 have Ho2 := Lib.hid (show OwnB w2 w.heap.size v2 (wireN c) from own_mono ho2 Hb1.out.size)
 have Hb2 := Lib.hid (Hb1.out.trans (hb2.mono Hb1.out.size))
 clear ho2 hb2
 go_wp2
 go_ret
 exact ⟨⟨_, rfl, Ho2.out⟩, Hb2.out⟩
def lrow (F N x y z : Nat) : List Value := [.int .i64 (F : Int), .int .i64 (N : Int), .int .i64 (x : Int), .int .i64 (y : Int), .int .i64 (z : Int)]
theorem max_int (p q : Nat) : max (p : Int) (q : Int) = ((max p q : Nat) : Int) := by omega
set_option maxRecDepth 100000 in
set_option maxHeartbeats 8000000 in
theorem refLeast22_any (a : Option Addr) (n cap : Nat) (k : Kno) (w : World) (hE : Frags w a n cap k) (hL : LtK k) (hF : KnoFits k) (hA : (allL (k.map (·.1))).length ≤ 2000) (hK : EncK (canonK k)) :
 Calls Tryz.prog 33 #[.slice a n cap] w fun x w' => x = .returned (limV (leastL (canonK k))) ∧ Below w.heap.size w w' := by
 have HC := Lib.hid (fun W (h : Below w.heap.size w W) => refCanon13_any a n cap k W (hE.below h) hL hF hA)
 have hal : Below w.heap.size w (w.alloc (.cells #[.int .i64 0, .int .i64 0, .int .i64 0, .int .i64 0, .int .i64 0] 47)) := (Below.refl _ _).alloc (Nat.le_refl _) _
 have HR := Lib.hid (World.ownsRow_lit (e := 47) (size := 5) (base := w.heap.size) w #[.int .i64 0, .int .i64 0, .int .i64 0, .int .i64 0, .int .i64 0] 1 (Nat.le_refl _) (by unfold maxLen; omega) rfl)
 have Hal := Lib.hid hal
 have HK := Lib.hid hK
 have Hlst := Lib.hid (show leastL (canonK k) = ((((joinB (wireN (canonK k))).length : Nat) : Int), (((canonK k).length : Nat) : Int), ((maxN (fun i => (nthF (canonK k) i).2.length) (canonK k).length : Nat) : Int), ((maxN (fun i => holesN (nthF (canonK k) i).2) (canonK k).length : Nat) : Int), (((segTo (canonK k) (canonK k).length).length : Nat) : Int)) from rfl)
 clear hE hL hF hA hK hal
 generalize canonK k = c at *
 go_enter Tryz.func33, Tryz.ntmps33
 go_wp2_with fail
 generalize w.alloc (.cells #[.int .i64 0, .int .i64 0, .int .i64 0, .int .i64 0, .int .i64 0] 47) = W at *
 refine (HC.out _ Hal.out).mono ?_
 rintro e w1 ⟨⟨a1, c1, rfl, hF1⟩, hb1⟩
 have HR1 := Lib.hid (own_below HR.out hb1)
 have Hb1 := Lib.hid (Hal.out.trans (hb1.mono Hal.out.size)); clear hb1 HR HC
 have HB := Lib.hid (refBytes19_any a1 _ c1 c w1 hF1 HK.out)
 have HF1 := Lib.hid hF1; clear hF1
 go_wp2_with fail
 refine HB.out.mono ?_
 rintro e w2 ⟨⟨y, rfl, ho⟩, hb2⟩
 obtain ⟨av, cv, rfl⟩ := own_slice ho
 have HF2 := Lib.hid (HF1.out.below hb2)
 have HR2 := Lib.hid (own_below HR1.out hb2)
 have Hb2 := Lib.hid (Hb1.out.trans (hb2.mono Hb1.out.size)); clear hb2 ho HB HF1 HR1
 have hlc := HK.out.len
 have HS := Lib.hid (fun d (hd : d ≤ c.length) => show (segTo c d).length ≤ 1000 from by rw [segTo_len c d hd]; exact Nat.le_trans (isum_take c d) HK.out.sum)
 have HSt := Lib.hid (fun d => show (segTo c (d + 1)).length = (segTo c d).length + (nthF c d).1.length from by rw [show segTo c (d + 1) = segF (segTo c d) (nthF c d).1 d from rfl, segF_len])
 clear HK
 generalize (joinB (wireN c)).length = FL at *
 obtain ⟨N, hN⟩ : ∃ N, N = c.length := ⟨_, rfl⟩
 rw [← hN] at HF2 hlc HS Hlst ⊢
 have HN := Lib.hid hN; clear hN
 have Ho3 := Lib.hid (World.ownsRow_lit (e := 47) (size := 5) (base := w2.heap.size) w2 (lrow FL N 0 0 0).toArray 1 (Nat.le_refl _) (by unfold maxLen; omega) rfl)
 have Hb3 := Lib.hid (show Below w2.heap.size w2 (w2.alloc (.cells (lrow FL N 0 0 0).toArray 47)) from (Below.refl _ _).alloc (Nat.le_refl _) _)
 go_wp2
 go_loopw [5, 6] (fun i _ wr => ∃ d : Nat, d ≤ N ∧ i = .int .i64 d ∧ Hid (Below w2.heap.size w2 wr) ∧ Hid (wr.ownsRow w2.heap.size 47 5 (sl1 w2.heap.size) 1 (lrow FL N (maxN (fun i => (nthF c i).2.length) d) (maxN (fun i => holesN (nthF c i).2) d) (segTo c d).length))) (fun i _ _ => N - (intOf i).toNat)
 case atStart => exact ⟨0, by omega, rfl, Hb3, Ho3⟩
 case round =>
  obtain ⟨d, hd, rfl, hb, ho⟩ := hrel
  clear Hb3 Ho3
  by_cases hdn : d < N
  · obtain ⟨bb, oo, rfl⟩ := HF2.out.some (by omega)
    obtain ⟨x, m, cx, y, m', c', hq⟩ := HF2.out.fix hdn
    have Hq1 := Lib.hid (fun w' (h : Below w2.heap.size w2 w') => (hq w' h).1)
    have Hq3 := Lib.hid (fun w' (h : Below w2.heap.size w2 w') => (hq w' h).2.2.1)
    obtain ⟨-, hIv, -, hEn⟩ := hq _ (Below.refl _ _)
    have hml := hIv.len
    have HEn := Lib.hid hEn
    have Hel := Lib.hid hEn.len
    have hmm : m' ≤ 9223372036854775807 := Nat.le_trans hEn.room hEn.most
    have HS1 := HSt.out d
    rw [hml] at HS1
    have hs1 := HS.out (d + 1) hdn
    have HE1 := Lib.hid (show maxN (fun i => (nthF c i).2.length) (d + 1) = max (maxN (fun i => (nthF c i).2.length) d) m' from by rw [maxN, hEn.len])
    have HH1 := Lib.hid (show maxN (fun i => holesN (nthF c i).2) (d + 1) = max (maxN (fun i => holesN (nthF c i).2) d) (maxN (fun j => (nthE (nthF c d).2 j).2.2.length) m') from by
     rw [maxN]
     unfold holesN
     rw [hEn.len])
    have h0 : (0 : Int) ≤ d := by omega
    have h04 : (d : Int) < (N : Int) := by omega
    rw [HS1] at hs1
    have HS1 := Lib.hid HS1
    clear hq hIv hml hEn
    generalize (segTo c d).length = S0 at *
    generalize maxN (fun i => (nthF c i).2.length) d = E0 at *
    generalize maxN (fun i => holesN (nthF c i).2) d = H0 at *
    generalize (nthF c d).2 = v at *
    have y4 := ho.out.cells (g := w2.heap.size) rfl 4 (.int .i64 (S0 : Int)) rfl
    rw [add_at, Nat.zero_add] at y4
    have f4 := own_frozen ho.out 4
    have q1 := Hq1.out _ hb.out
    have z1 : World.cell? { wr with drawn := wr.drawn + 1 } ⟨w2.heap.size, 4, none⟩ = some (.int .i64 (S0 : Int)) := y4
    have z2 : World.cell? { wr with drawn := wr.drawn + 1 } ⟨bb, oo + d * 2, none⟩ = some (.slice x m cx) := q1
    go_wp2_with fail
    refine wp_region_still_tail 10 (by kernel_rfl) (by kernel_rfl) ?_
    simp only [List.take_succ_cons, List.take_zero, List.drop_succ_cons, List.drop_zero]
    repeat still_step
    refine wpStill_nil ?_
    change wpList _ _ _ _ _ wr.drew
    go_wp2_with fail
    have Ho1 := Lib.hid (show ((wr.setCell ⟨w2.heap.size, 4, none⟩ (.int .i64 ((S0 : Int) + (m : Int)))).drew).ownsRow w2.heap.size 47 5 (sl1 w2.heap.size) 1 (lrow FL N E0 H0 (S0 + m)) from ((ho.out.stored 4 _).1).drew)
    have Hb1 := Lib.hid (show Below w2.heap.size w2 (wr.setCell ⟨w2.heap.size, 4, none⟩ (.int .i64 ((S0 : Int) + (m : Int)))).drew from (hb.out.setCell (p := ⟨w2.heap.size, 4, none⟩) (Nat.le_refl _) _).drew)
    clear ho hb y4 f4 q1 z1 z2 hs1
    generalize (wr.setCell ⟨w2.heap.size, 4, none⟩ (.int .i64 ((S0 : Int) + (m : Int)))).drew = W1 at *
    have y2 := Ho1.out.cells (g := w2.heap.size) rfl 2 (.int .i64 (E0 : Int)) rfl
    rw [add_at, Nat.zero_add] at y2
    have f2 := own_frozen Ho1.out 2
    have q3 := Hq3.out _ Hb1.out
    have z1 : World.cell? { W1 with drawn := W1.drawn + 1 } ⟨w2.heap.size, 2, none⟩ = some (.int .i64 (E0 : Int)) := y2
    have z2 : World.cell? { W1 with drawn := W1.drawn + 1 } ⟨bb, oo + d * 2 + 1, none⟩ = some (.slice y m' c') := q3
    refine wp_region_still_tail 10 (by kernel_rfl) (by kernel_rfl) ?_
    simp only [List.take_succ_cons, List.take_zero, List.drop_succ_cons, List.drop_zero]
    repeat still_step
    refine wpStill_nil ?_
    change wpList _ _ _ _ _ W1.drew
    go_wp2_with fail
    have Ho2 := Lib.hid (show ((W1.setCell ⟨w2.heap.size, 2, none⟩ (.int .i64 (max (E0 : Int) (m' : Int)))).drew).ownsRow w2.heap.size 47 5 (sl1 w2.heap.size) 1 (lrow FL N (max E0 m') H0 (S0 + m)) from by rw [max_int]; exact ((Ho1.out.stored 2 _).1).drew)
    have Hb2 := Lib.hid (show Below w2.heap.size w2 (W1.setCell ⟨w2.heap.size, 2, none⟩ (.int .i64 (max (E0 : Int) (m' : Int)))).drew from (Hb1.out.setCell (p := ⟨w2.heap.size, 2, none⟩) (Nat.le_refl _) _).drew)
    clear Ho1 Hb1 y2 f2 q3 z1 z2
    generalize (W1.setCell ⟨w2.heap.size, 2, none⟩ (.int .i64 (max (E0 : Int) (m' : Int)))).drew = W2 at *
    go_loopw [6] (fun j wi => ∃ e : Nat, e ≤ m' ∧ j = .int .i64 e ∧ Hid (Below w2.heap.size w2 wi) ∧ Hid (wi.ownsRow w2.heap.size 47 5 (sl1 w2.heap.size) 1 (lrow FL N (max E0 m') (max H0 (maxN (fun j => (nthE v j).2.2.length) e)) (S0 + m)))) (fun j _ => m' - (intOf j).toNat)
    case atStart => exact ⟨0, by omega, rfl, Hb2, by rw [maxN, Nat.max_eq_left (Nat.zero_le _)]; exact Ho2⟩
    case round =>
     obtain ⟨e, he, rfl, hbi, hoi⟩ := hrel
     clear Hb2 Ho2
     have q3 := Hq3.out _ hbi.out
     by_cases hem : e < m'
     · obtain ⟨bv, ov, rfl⟩ := HEn.out.some (by omega)
       obtain ⟨xh, mh, ch, hqe⟩ := HEn.out.fix hem
       obtain ⟨-, -, qe, hIh⟩ := hqe _ hbi.out
       have Hm1 := Lib.hid (show max H0 (maxN (fun j => (nthE v j).2.2.length) (e + 1)) = max (max H0 (maxN (fun j => (nthE v j).2.2.length) e)) mh from by rw [maxN, hIh.len, Nat.max_assoc])
       have e0 : (0 : Int) ≤ e := by omega
       have e4 : (e : Int) < (m' : Int) := by omega
       clear hqe hIh
       generalize max H0 (maxN (fun j => (nthE v j).2.2.length) e) = P at *
       have y3 := hoi.out.cells (g := w2.heap.size) rfl 3 (.int .i64 (P : Int)) rfl
       rw [add_at, Nat.zero_add] at y3
       have f3 := own_frozen hoi.out 3
       have z1 : World.cell? { wr with drawn := wr.drawn + 1 } ⟨w2.heap.size, 3, none⟩ = some (.int .i64 (P : Int)) := y3
       have z2 : World.cell? { wr with drawn := wr.drawn + 1 } ⟨bb, oo + d * 2 + 1, none⟩ = some (.slice (some ⟨bv, ov, none⟩) m' c') := q3
       have z3 : World.cell? { wr with drawn := wr.drawn + 1 } ⟨bv, ov + e * 3 + 2, none⟩ = some (.slice xh mh ch) := qe
       go_wp2_with fail
       refine wp_region_still_tail 14 (by kernel_rfl) (by kernel_rfl) ?_
       simp only [List.take_succ_cons, List.take_zero, List.drop_succ_cons, List.drop_zero]
       repeat still_step
       refine wpStill_nil ?_
       change wpList _ _ _ _ _ wr.drew
       go_wp2
       have Hoj := Lib.hid (show ((wr.setCell ⟨w2.heap.size, 3, none⟩ (.int .i64 (max (P : Int) (mh : Int)))).drew).ownsRow w2.heap.size 47 5 (sl1 w2.heap.size) 1 (lrow FL N (max E0 m') (max P mh) (S0 + m)) from by rw [max_int]; exact ((hoi.out.stored 3 _).1).drew)
       have Hbj := Lib.hid (show Below w2.heap.size w2 (wr.setCell ⟨w2.heap.size, 3, none⟩ (.int .i64 (max (P : Int) (mh : Int)))).drew from (hbi.out.setCell (p := ⟨w2.heap.size, 3, none⟩) (Nat.le_refl _) _).drew)
       go_roundw
       case rel => exact ⟨e + 1, by omega, by go_num, Hbj, by rw [Hm1.out]; exact Hoj⟩
       case measure => simp [intOf]; omega
     · obtain rfl : e = m' := by omega
       go_wp2
       go_roundw
       case rel => exact ⟨d + 1, by omega, by go_num, hbi, by rw [HS1.out, HE1.out, HH1.out]; exact hoi⟩
       case measure => simp [intOf]; omega
  · obtain rfl : d = N := by omega
    have hR := own_below HR2.out hb.out
    have HbE := Lib.hid (Hb2.out.trans (hb.out.mono Hb2.out.size))
    have hO := ho.out
    generalize maxN (fun i => (nthF c i).2.length) d = E0 at *
    generalize maxN (fun i => holesN (nthF c i).2) d = H0 at *
    generalize (segTo c d).length = S0 at *
    have y0 := hO.cells (g := w2.heap.size) rfl 0 (.int .i64 (FL : Int)) rfl
    have y1 := hO.cells (g := w2.heap.size) rfl 1 (.int .i64 (d : Int)) rfl
    have y2 := hO.cells (g := w2.heap.size) rfl 2 (.int .i64 (E0 : Int)) rfl
    have y3 := hO.cells (g := w2.heap.size) rfl 3 (.int .i64 (H0 : Int)) rfl
    have y4 := hO.cells (g := w2.heap.size) rfl 4 (.int .i64 (S0 : Int)) rfl
    have r0 := hR.cells (g := w.heap.size) rfl 0 _ rfl
    have r1 := hR.cells (g := w.heap.size) rfl 1 _ rfl
    have r2 := hR.cells (g := w.heap.size) rfl 2 _ rfl
    have r3 := hR.cells (g := w.heap.size) rfl 3 _ rfl
    have r4 := hR.cells (g := w.heap.size) rfl 4 _ rfl
    rw [add_at, Nat.zero_add] at y0 y1 y2 y3 y4
    rw [add_at] at r0 r1 r2 r3 r4
    simp only [Nat.zero_add] at r0 r1 r2 r3 r4
    have f0 := own_frozen hR 0
    have f1 := own_frozen hR 1
    have f2 := own_frozen hR 2
    have f3 := own_frozen hR 3
    have f4 := own_frozen hR 4
    have Hls := Lib.hid (show limV (leastL c) = .agg #[.int .i64 (FL : Int), .int .i64 (d : Int), .int .i64 (E0 : Int), .int .i64 (H0 : Int), .int .i64 (S0 : Int)] from by rw [Hlst.out]; rfl)
    clear hR hO ho hb
    go_wp2_with fail
    refine bodyPost_ret (v := limV (leastL c)) (by rw [Hls.out]; simp [results, Tryz.results33, go_sem, World.cell?_setCell_same, World.cell?_setCell_other, r0, r1, r2, r3, r4]) rfl ?_
    refine ⟨rfl, ?_⟩
    refine Below.setCell (Below.setCell (Below.setCell (Below.setCell (Below.setCell HbE.out ?_ _) ?_ _) ?_ _) ?_ _) ?_ _ <;> simp
end
end Go.Proofs.YtkkdlgcfcbaibaaGreatDoor
