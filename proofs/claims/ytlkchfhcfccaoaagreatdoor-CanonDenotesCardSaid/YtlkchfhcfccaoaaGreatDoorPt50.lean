/- Walks and laws, merged: part 50. -/
import Derived.Test.YtlkchfhcfccaoaaGreatDoorPt32
import Derived.Test.YtlkchfhcfccaoaaGreatDoorPt11
import Derived.Test.YtlkchfhcfccaoaaGreatDoorPt30
import Derived.Test.YtlkchfhcfccaoaaGreatDoorPt49
section
namespace Go.Proofs.YtlkchfhcfccaoaaGreatDoor
open Go.RowKit Go.Shelf
attribute [local go_sem] Oper.semAt_some wide_fn
set_option linter.unusedVariables false

/-- Correct fragments, of sizes that can be searched. -/
structure OkF (f : Frg) : Prop where
  items : Good f.1 ∧ f.1.length ≤ 1000000
  asc : f.2.Pairwise RepLt
  len : f.2.length ≤ 1000000
  holes : ∀ e ∈ f.2, Good e.2.2 ∧ e.2.2.length ≤ 1000000

set_option maxRecDepth 20000 in
set_option maxHeartbeats 4000000 in
theorem scoHas_any (a : Option Addr) (m c t r z : Nat) (k : Kno) (w : World) (hE : Frags w a m c k) (hG : ∀ f ∈ k, OkF f) (hm : m ≤ 500) :
    Calls Tryz.prog 21 #[.slice a m c, .int .u64 t, .int .u64 r, .int .u64 z] w fun e w' => e = .returned (.bool (hasK k t r z)) ∧ Below w.heap.size w w' := by
  have HE := Lib.hid hE; have HG := Lib.hid hG
  clear hE hG
  refine (callsIn_wide (n := 3)).1 ?_
  refine callsIn_of_wp_marks Tryz.func21 rfl trivial ?_ rfl
  simp only [Tryz.ntmps21, List.size_toArray, List.length_cons, List.length_nil, Nat.reduceAdd, Nat.reduceSub, Array.replicate_succ, Array.replicate_zero, List.push_toArray, List.append_toArray, List.nil_append, List.cons_append]
  refine wpIn_wide.2 ?_
  go_wp2_with (go_at_call 48; refine (with_any _ _ _ _ _).mono ?_; rintro e w1 ⟨rfl, rfl⟩)
  refine (wpIn_wide (n := 3)).1 ?_
  obtain ⟨C0, hC0⟩ : ∃ C0 : Obj, C0 = .cells #[.int .u64 r] 43 := ⟨_, rfl⟩
  obtain ⟨C1, hC1⟩ : ∃ C1 : Obj, C1 = .cells #[.int .u64 z] 43 := ⟨_, rfl⟩
  obtain ⟨C2, hC2⟩ : ∃ C2 : Obj, C2 = .cells #[.bool false] 4 := ⟨_, rfl⟩
  obtain ⟨C3, hC3⟩ : ∃ C3 : Obj, C3 = .cells #[.slice a m c] 23 := ⟨_, rfl⟩
  obtain ⟨C4, hC4⟩ : ∃ C4 : Obj, C4 = .cells #[.int .u64 t] 43 := ⟨_, rfl⟩
  rw [← hC0, ← hC1, ← hC2, ← hC3, ← hC4]
  obtain ⟨wl, hwl⟩ : ∃ wl : World, wl = ((((w.alloc C0).alloc C1).alloc C2).alloc C3).alloc C4 := ⟨_, rfl⟩
  rw [← hwl]
  have hsz : wl.heap.size = w.heap.size + 5 := by rw [hwl]; simp
  have hbw : Below w.heap.size w wl := by
    rw [hwl]
    exact (((((Below.refl _ w).alloc (Nat.le_refl _) C0).alloc (by simp) C1).alloc (by simp; omega) C2).alloc (by simp; omega) C3).alloc (by simp; omega) C4
  have e0 : wl.heap[w.heap.size]? = some C0 := by rw [hwl]; exact row_old (row_old (row_old (row_old (row_new rfl))))
  have e1 : wl.heap[w.heap.size + 1]? = some C1 := by rw [hwl]; exact row_old (row_old (row_old (row_new (by simp))))
  have e2 : wl.heap[w.heap.size + 2]? = some C2 := by rw [hwl]; exact row_old (row_old (row_new (by simp)))
  have e3 : wl.heap[w.heap.size + 3]? = some C3 := by rw [hwl]; exact row_old (row_new (by simp))
  have e4 : wl.heap[w.heap.size + 4]? = some C4 := by rw [hwl]; exact row_new (by simp)
  clear hwl
  refine wp_range (n := 3) (gf := 91) (lb := #[.pointer (some ⟨w.heap.size + 3, 0, none⟩), .pointer (some ⟨w.heap.size + 4, 0, none⟩)]) rfl (enters_of Tryz.func91 (by kernel_rfl) rfl)
    (with_seq (3 - 1) w wl (w.heap.size + 3) (w.heap.size + 4) a m c t k HE.out (fun f hf => (HG.out f hf).items) hbw hm (by rw [e3, hC3]) (by rw [e4, hC4]))
    (fun x => rfl) (fun k hk => hk.elim) (fun k hk => by omega)
    (fun pre W => Below w.heap.size w W ∧ W.heap[w.heap.size]? = some C0 ∧ W.heap[w.heap.size + 1]? = some C1 ∧ W.heap[w.heap.size + 2]? = some C2 ∧ ∀ x ∈ pre, hasV (nthF k x.1).2 r z = false)
    (fun cd pre W => cd = .ret ∧ W.heap[w.heap.size + 2]? = some (.cells #[.bool true] 4) ∧ Below w.heap.size w W ∧ hasK k t r z = true) ?hI ?hIx ⟨hbw, e0, e1, e2, fun p hp => by cases hp⟩ ?round ?done ?stop
  case hI =>
    rintro s A B ⟨h4, h0, h1, h2, h3⟩ hk
    have hs := h4.size
    exact ⟨h4.trans (hk.toBelow (fun k hk' => ⟨id, by omega, by omega⟩) (by omega)), (hk.row _ (Array.getElem?_eq_some_iff.1 h0).1 ⟨id, by omega, by omega⟩).trans h0, (hk.row _ (Array.getElem?_eq_some_iff.1 h1).1 ⟨id, by omega, by omega⟩).trans h1, (hk.row _ (Array.getElem?_eq_some_iff.1 h2).1 ⟨id, by omega, by omega⟩).trans h2, h3⟩
  case hIx =>
    rintro cd s A B ⟨h0, h2, h4, h3⟩ hk
    have hs := h4.size
    exact ⟨h0, (hk.row _ (Array.getElem?_eq_some_iff.1 h2).1 ⟨id, by omega, by omega⟩).trans h2, h4.trans (hk.toBelow (fun k hk' => ⟨id, by omega, by omega⟩) (by omega)), h3⟩
  case round =>
    rintro pre ⟨i, s1, s2⟩ W ⟨⟨rest, hV⟩, hsl⟩ ⟨h4, h0, h1, h2, h3⟩ hsW
    rw [hsz] at hsW ⊢
    obtain ⟨⟨a1, n1, z1, e1', -⟩, a2, n2, z2, e2', hEv⟩ := hsl (i, s1, s2) (by simp)
    simp only at e1' e2' hEv
    subst e1' e2'
    have him : i ∈ membersK k t := by rw [hV]; simp
    obtain ⟨hik, hmi⟩ := members_mem.1 him
    have hok := HG.out _ (nthF_mem hik)
    clear hsl hsz hbw e0 e1 e2 e3 e4 hC3 hC4 hV him
    simp only [wEnc]
    obtain ⟨q, hq⟩ : ∃ q : Nat, q = W.heap.size := ⟨_, rfl⟩
    gi_wp2
    refine ⟨(Kept.refl _ W).alloc _, fun W2 hk2 hs2 => ?_⟩
    try rw [World.size_alloc] at hs2
    have k1 : Kept (fun k => k ≠ w.heap.size + 5 + 1) W W2 := ((Kept.refl _ W).alloc _).trans hk2
    have b0 : W2.heap[w.heap.size]? = some C0 := (k1.row _ (Array.getElem?_eq_some_iff.1 h0).1 (by omega)).trans h0
    have b1 : W2.heap[w.heap.size + 1]? = some C1 := (k1.row _ (Array.getElem?_eq_some_iff.1 h1).1 (by omega)).trans h1
    have b2 : W2.heap[w.heap.size + 2]? = some C2 := (k1.row _ (Array.getElem?_eq_some_iff.1 h2).1 (by omega)).trans h2
    have b4 : W2.heap[q]? = some (.cells #[.slice a1 n1 z1, .slice a2 n2 z2] 33) := by rw [hq]; exact (hk2.row _ (by simp) (by omega)).trans (row_new rfl)
    have B4 := Lib.hid (h4.trans (k1.toBelow (n := w.heap.size) (fun k hk' => by omega) h4.size))
    rw [← hq]
    have hB4 : w.heap.size + 5 ≤ W2.heap.size := by omega
    have Hb0 := Lib.hid b0; have Hb1 := Lib.hid b1; have Hb2 := Lib.hid b2
    rw [hC0] at b0
    rw [hC1] at b1
    rw [hC2] at b2
    have c0 := box_cell b0
    have c1 := box_cell b1
    have c2 : W2.cell? ⟨q, 0, none⟩ = some (.slice a1 n1 z1) := cells_cell (i := 0) b4 rfl
    have c3 : W2.cell? ⟨q, 1, none⟩ = some (.slice a2 n2 z2) := cells_cell (i := 1) b4 rfl
    have HC := Lib.hid (And.intro hC0 (And.intro hC1 hC2))
    have Hmi := Lib.hid (And.intro hik hmi); have H3 := Lib.hid h3
    have hF := Lib.hid (vecHas_any a2 n2 z2 r z (nthF k i).2 W2 (hEv.below B4.out) hok.asc (fun e he => (hok.holes e he).1) (by rw [← hEv.len]; exact hok.len) (fun e he => (hok.holes e he).2))
    have Hhas := Lib.hid (show hasV (nthF k i).2 r z = true → hasK k t r z = true from fun h => any_at (p := fun f => mem f.1 t && hasV f.2 r z) hik (by rw [hmi, h]; rfl))
    have Hpre := Lib.hid (show hasV (nthF k i).2 r z = false → ∀ x ∈ pre ++ [((i, .slice a1 n1 z1, .slice a2 n2 z2) : WEl)], hasV (nthF k x.1).2 r z = false from fun h x hx => by
      rcases List.mem_append.1 hx with h' | h'
      · exact h3 x h'
      · rw [List.mem_singleton] at h'; rw [h']; exact h)
    clear k1 hk2 hs2 h1 h2 h3 h4 h0 b1 b2 b0 b4 hq hsW hC1 hC2 hC0 hEv hok hik hmi
    generalize hasV (nthF k i).2 r z = bh at *
    gi_wp2_with fail
    refine (CallsIn.inRound _ (callsIn_wide.2 hF.out)).mono ?_
    rintro e w3 ⟨rfl, hb3⟩
    have d0 := (hb3.block _ (by omega)).trans Hb0.out
    have d1 := (hb3.block _ (by omega)).trans Hb1.out
    have d2 := (hb3.block _ (by omega)).trans Hb2.out
    have Hd0 := Lib.hid d0; have Hd1 := Lib.hid d1; have Hd2 := Lib.hid d2; have Hb3 := Lib.hid hb3
    rw [HC.out.2.2] at d2
    have q5 := box_cell d2
    have q6 := box_frozen d2
    clear c0 c1 c2 c3 d0 d1 d2 hb3
    cases bh with
    | true =>
      have Hy := Lib.hid (Hhas.out rfl)
      clear Hhas Hpre
      gi_wp2
      refine ⟨((Kept.refl _ W2).below Hb3.out).setCell (fun _ => by simp only; omega) _, rfl, ?_, (B4.out.trans (Hb3.out.mono (by omega))).setCell (by simp only; omega) _, Hy.out⟩
      have h := Hd2.out
      rw [HC.out.2.2] at h
      exact box_set h
    | false =>
      have Hy := Lib.hid (Hpre.out rfl)
      clear Hhas Hpre
      gi_wp2
      exact ⟨(Kept.refl _ W2).below Hb3.out, B4.out.trans (Hb3.out.mono (by omega)), Hd0.out, Hd1.out, Hd2.out, Hy.out⟩
  case done =>
    rintro ps W ⟨hS, -⟩ ⟨h4, h0, h1, h2, h3⟩ hK
    have Hd := Lib.hid (show hasK k t r z = false from by
      refine any_not (p := fun f => mem f.1 t && hasV f.2 r z) fun i hi => ?_
      by_cases hmi : mem (nthF k i).1 t = true
      · have : i ∈ ps.map (·.1) := by rw [← hS]; exact members_mem.2 ⟨hi, hmi⟩
        obtain ⟨x, hx, rfl⟩ := List.mem_map.1 this
        rw [h3 x hx, Bool.and_false]
      · rw [Bool.eq_false_iff.2 hmi, Bool.false_and])
    rw [hC2] at h2
    have c4 := box_cell h2
    have c5 := box_frozen h2
    have H2 := Lib.hid h2; have H4 := Lib.hid h4; have HK := Lib.hid hK
    clear h1 h2 h3 h4 h0 hS hK e0 e1 e2 e3 e4
    gi_wp2
    go_wp2
    have hne : wl.heap.size ≠ w.heap.size + 2 := by omega
    refine ⟨by simp, .inl ⟨_, _, rfl, run_takeDeferred ((Below.heap_setCell _ _ _ _ hne).trans HK.out), ?_⟩⟩
    have h5 : ((W.setCell ⟨w.heap.size + 2, 0, none⟩ (.bool false)).putObj wl.heap.size (.deferred none)).heap[w.heap.size + 2]? = some (.cells #[.bool false] 4) := (World.putObj_heap_other (Ne.symm hne)).trans (box_set H2.out)
    have q5 := box_cell h5
    refine ⟨.bool false, by simp [results, Tryz.results21, go_sem, q5], by rw [Hd.out], ?_⟩
    exact H4.out.trans (((Kept.refl (fun k => k < w.heap.size) W).setCell (fun _ h => by have h' : w.heap.size + 2 < w.heap.size := h; omega) _ |>.putObj (fun _ h => by have h' : wl.heap.size < w.heap.size := h; omega) _).toBelow (fun _ h => h) H4.out.size)
  case stop =>
    rintro c pre W hV ⟨rfl, h2, h4, h3⟩ hK
    have c4 := box_cell h2
    have H4 := Lib.hid h4; have H3 := Lib.hid h3; have HK := Lib.hid hK
    gi_wp2
    refine ⟨by simp, .inl ⟨_, _, rfl, run_takeDeferred HK.out, ?_⟩⟩
    have h5 : (W.putObj wl.heap.size (.deferred none)).heap[w.heap.size + 2]? = some (.cells #[.bool true] 4) := (World.putObj_heap_other (by omega)).trans h2
    have q5 := box_cell h5
    refine ⟨.bool true, by simp [results, Tryz.results21, go_sem, q5], by rw [H3.out], ?_⟩
    exact H4.out.trans ((Kept.refl (fun k => k < w.heap.size) W).putObj (fun _ h => by have h' : wl.heap.size < w.heap.size := h; omega) _ |>.toBelow (fun _ h => h) H4.out.size)

end Go.Proofs.YtlkchfhcfccaoaaGreatDoor
end

section
namespace Go.Proofs.YtlkchfhcfccaoaaGreatDoor
open Go.RowKit
set_option linter.unusedVariables false

theorem okF_small {k : Kno} (h : ∀ f ∈ k, Good f.1 ∧ ckV f.2 = none) (hs : ∀ f ∈ k, f.1.length ≤ 500 ∧ VecFits f.2) : ∀ f ∈ k, OkF f := fun f hf => by
  obtain ⟨h1, h2⟩ := h f hf
  obtain ⟨h3, h4⟩ := hs f hf
  obtain ⟨h5, h6⟩ := ckV_none.1 h2
  refine ⟨⟨h1, by omega⟩, h5, by have := h4.len; omega, fun e he => ⟨?_, by have := h4.holes e he; omega⟩⟩
  exact (ckE_none.1 (h6 e he)).1

set_option maxRecDepth 20000 in
set_option maxHeartbeats 4000000 in
theorem walkCanonDenotes (a : Option Addr) (n cap x r z : Nat) (k : Kno) (w : World) (hE : Frags w a n cap k) (hR : Ready w) :
    Calls Tryz.prog 6 #[.slice a n cap, .agg #[.int .u64 x, .int .u64 r, .int .u64 z]] w fun e w' => e = .returned (.bool true) ∧ Below w.heap.size w w' := by
  obtain ⟨wB, hwB⟩ : ∃ wB, wB = w.alloc (.cells #[.int .u64 x, .int .u64 r, .int .u64 z] 45) := ⟨_, rfl⟩
  have hbB : Below w.heap.size w wB := by rw [hwB]; exact (Below.refl _ _).alloc (Nat.le_refl _) _
  have hrB : wB.heap[w.heap.size]? = some (.cells #[.int .u64 x, .int .u64 r, .int .u64 z] 45) := by rw [hwB]; exact row_new rfl
  have HwB := Lib.hid hwB
  have HbB := Lib.hid hbB; have HrB := Lib.hid hrB
  have HR := Lib.hid (fun W (h : Below wB.heap.size wB W) => hR.below (hbB.trans (h.mono hbB.size)))
  have HE := Lib.hid (fun W (h : Below wB.heap.size wB W) => hE.below (hbB.trans (h.mono hbB.size)))
  have hRt := right_any a n cap k wB (HE.out _ (Below.refl _ _))
  have hall := hE.all
  have hlen := hE.len
  clear hR hE hwB hbB hrB
  cases hf : (fewK k && decide (ckF k = none)) with
  | false =>
    rw [hf] at hRt
    have HF := Lib.hid hRt
    clear hRt hf hall hlen
    go_enter Tryz.func6, Tryz.ntmps6
    go_wp2_with fail
    rw [← HwB.out]
    refine HF.out.mono ?_
    rintro e w0 ⟨rfl, hb0⟩
    have Hb0 := Lib.hid hb0; clear hb0
    go_wp2_with fail
    refine (alive_any _ (HR.out _ Hb0.out)).mono ?_
    rintro e w1 ⟨rfl, hb1⟩
    have Hb1 := Lib.hid (Hb0.out.trans (hb1.mono Hb0.out.size)); clear hb1
    go_wp2_with fail
    go_ret
    exact ⟨rfl, HbB.out.trans (Hb1.out.mono HbB.out.size)⟩
  | true =>
    rw [hf] at hRt
    have HF := Lib.hid hRt
    rw [Bool.and_eq_true, decide_eq_true_eq] at hf
    obtain ⟨hs, h12, h240⟩ := fewK_small hf.1
    have hk := ltK_of hall hf.2
    obtain ⟨jc, ic, lc⟩ := canon_joins hk hs h240
    obtain ⟨c1, c2, c3⟩ := canonK_can hk
    have HC := Lib.hid (fun W (h : Below wB.heap.size wB W) => canCanon_any a n cap k W (HE.out W h) (small_joins hk hs hf.2) (Nat.le_trans (startsK_le _) (by omega)))
    have HSc := Lib.hid (fun W (hb : Below wB.heap.size wB W) a' c' (h : Frags W a' (canonK k).length c' (canonK k)) => scoCheck_any a' _ c' (canonK k) W h (HR.out W hb).door)
    rw [show ckF (canonK k) = none from ckF_none.2 fun f hf => ⟨(c1.items f hf).1, canV_ck (c1.vec f hf).1⟩] at HSc
    have HHs := Lib.hid (fun W a' c' (h : Frags W a' (canonK k).length c' (canonK k)) => scoHas_any a' _ c' x r z (canonK k) W h (okF_small (fun f hf => ⟨(c1.items f hf).1, canV_ck (c1.vec f hf).1⟩) (fun f hf => ⟨jc.fits.items f hf, jc.fits.vec f hf⟩)) (by omega))
    have HRh := Lib.hid (fun W (h : Below wB.heap.size wB W) => refHas11_any a n cap x r z k W (HE.out W h))
    rw [hasK_eq (fun f hf => (c1.vec f hf).1.asc), c3] at HHs
    rw [hasK_eq (fun f hf => (hk f hf).asc)] at HRh
    simp only [errOf, errVal] at HSc
    clear hRt hf hs h12 h240 hk jc ic lc c1 c2 c3 hall hlen
    generalize canonK k = c at *
    generalize knownK k x r z = known at *
    go_enter Tryz.func6, Tryz.ntmps6
    go_wp2_with fail
    rw [← HwB.out]
    refine HF.out.mono ?_
    rintro e w0 ⟨rfl, hb0⟩
    have Hb0 := Lib.hid hb0; clear hb0
    go_wp2_with fail
    refine (HC.out _ Hb0.out).mono ?_
    rintro e w1 ⟨⟨y, rfl, ho⟩, hb1⟩
    obtain ⟨a1, c1, rfl, hK⟩ := ho.frags
    have HK := Lib.hid (fun W (h : Below w1.heap.size w1 W) => hK.below h)
    have Hb1 := Lib.hid (Hb0.out.trans (hb1.mono Hb0.out.size)); clear hb1 ho hK
    have hlt : w.heap.size < wB.heap.size := (Array.getElem?_eq_some_iff.1 HrB.out).1
    have hrow : ∀ w', Below w1.heap.size w1 w' → w'.heap[w.heap.size]? = some (.cells #[.int .u64 x, .int .u64 r, .int .u64 z] 45) := fun w' h => ((Hb1.out.trans (h.mono Hb1.out.size)).block _ hlt).trans HrB.out
    have r0 : ∀ w', Below w1.heap.size w1 w' → w'.cell? ⟨w.heap.size, 0, none⟩ = some (.int .u64 x) := fun w' h => cells_cell (hrow w' h) rfl
    have r1 : ∀ w', Below w1.heap.size w1 w' → w'.cell? ⟨w.heap.size, 1, none⟩ = some (.int .u64 r) := fun w' h => cells_cell (hrow w' h) rfl
    have r2 : ∀ w', Below w1.heap.size w1 w' → w'.cell? ⟨w.heap.size, 2, none⟩ = some (.int .u64 z) := fun w' h => cells_cell (hrow w' h) rfl
    have HAl := Lib.hid (fun W (h : Below w1.heap.size w1 W) => alive_any W (HR.out _ (Hb1.out.trans (h.mono Hb1.out.size))))
    clear hrow
    go_wp2_with fail
    go_region_held3 (fun w' => Below w1.heap.size w1 w') (first | assumption | exact Below.refl _ _ | exact (Below.refl _ _).drew) (first
      | (go_at_call 10
         refine (HAl.out _ (by assumption)).mono ?_
         rintro e w3 ⟨rfl, hb3⟩
         have hS3 : Below w1.heap.size w1 w3 := Below.trans (by assumption) (hb3.mono (Below.size (by assumption)))
         clear hb3)
      | (go_at_call 20
         refine (HSc.out _ (Hb1.out.trans (Below.mono (by assumption) Hb1.out.size)) _ _ (HK.out _ (by assumption))).mono ?_
         rintro e w4 ⟨rfl, hb4⟩
         have hS4 : Below w1.heap.size w1 w4 := Below.trans (by assumption) (hb4.mono (Below.size (by assumption)))
         clear hb4)
      | (go_at_call 21
         refine (HHs.out _ _ _ (HK.out _ (by assumption))).mono ?_
         rintro e w5 ⟨rfl, hb5⟩
         have hS5 : Below w1.heap.size w1 w5 := Below.trans (by assumption) (hb5.mono (Below.size (by assumption)))
         clear hb5)
      | (go_at_call 22
         refine (HRh.out _ (Hb1.out.trans (Below.mono (by assumption) Hb1.out.size))).mono ?_
         rintro e w6 ⟨rfl, hb6⟩
         have hS6 : Below w1.heap.size w1 w6 := Below.trans (by assumption) (hb6.mono (Below.size (by assumption)))
         clear hb6))
    all_goals go_wp2
    all_goals
      go_ret
      exact ⟨by simp, HbB.out.trans ((Hb1.out.trans (Below.mono (by assumption) Hb1.out.size)).mono HbB.out.size)⟩

end Go.Proofs.YtlkchfhcfccaoaaGreatDoor
end
