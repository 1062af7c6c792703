/- Walks and laws, joined: La45. -/
import Derived.Test.YtkkdlgcfcbaibaaGreatDoorLa39
import Derived.Test.YtkkdlgcfcbaibaaGreatDoorLa41
import Derived.Test.YtkkdlgcfcbaibaaGreatDoorLa44
set_option linter.unusedVariables false
namespace Go.Proofs.YtkkdlgcfcbaibaaGreatDoor
section
open Go.RowKit
theorem firstS_le {p : Nat → Option (Nat × Nat)} {n B : Nat} (hp : ∀ i x, p i = some x → x.1 ≤ B) {x : Nat × Nat} (h : firstS p n = some x) : x.1 ≤ B := by
 obtain ⟨i, -, -, h3⟩ := firstS_of_some h
 exact hp i x h3
theorem ck_le {l : List Iv} {x : Nat × Nat} (h : ck l = some x) : x.1 ≤ 9 := firstS_le (fun i x hx => by
 unfold ckAt at hx
 split at hx
 · cases hx; simp
 · split at hx <;> cases hx; simp) h
theorem ckE_le {e : Ent} {x : Nat × Nat} (h : ckE e = some x) : x.1 ≤ 9 := by
 unfold ckE at h
 split at h
 · rename_i y hy; cases h; exact ck_le hy
 · exact firstS_le (fun i x hx => by unfold ckHole at hx; split at hx <;> cases hx; simp) h
theorem ckV_le {v : Vec} {x : Nat × Nat} (h : ckV v = some x) : x.1 ≤ 9 := firstS_le (fun i x hx => by
 unfold ckVAt at hx
 split at hx
 · rename_i y hy; cases hx; have h := ckE_le hy; exact h
 · split at hx <;> cases hx; simp) h
theorem ckF_le {k : Kno} {x : Nat × Nat} (h : ckF k = some x) : x.1 ≤ 9 := firstS_le (fun i x hx => by
 unfold ckFAt at hx
 split at hx
 · rename_i y hy; cases hx; have h := ck_le hy; exact h
 · split at hx
   · rename_i y hy; cases hx; have h := ckV_le hy; exact h
   · cases hx) h
theorem limits_colon : limitsS ++ ⟨#[58, 32]⟩ = ⟨#[108, 105, 109, 105, 116, 115, 58, 32]⟩ := rfl
theorem canon_enc {k : Kno} (hk : LtK k) (hs : SmallK k) (hi : isum k ≤ 240) : EncK (canonK k) := by
 obtain ⟨h1, h2, h3⟩ := canon_small hk (small_fits hk hs) hi
 obtain ⟨c1, c2, -⟩ := canonK_can hk
 exact ⟨c1, c2, h3, by omega, by omega⟩
set_option maxRecDepth 100000 in
set_option maxHeartbeats 8000000 in
theorem walkLimitsLeast (a : Option Addr) (n cap : Nat) (k : Kno) (w : World) (hE : Frags w a n cap k) (hD : Door w) :
 Calls Tryz.prog 7 #[.slice a n cap] w fun e w' => e = .returned (.bool true) ∧ Below w.heap.size w w' := by
 have HD := Lib.hid (fun W (h : Below w.heap.size w W) => hD.below (Nat.le_refl _) h)
 have HE := Lib.hid (fun W (h : Below w.heap.size w W) => hE.below h)
 have hFew := refFew11_any a n cap k w hE
 have hall := hE.all
 clear hD hE
 cases hf : fewK k with
 | false =>
  rw [hf] at hFew
  have HF := Lib.hid hFew
  clear hFew hf hall
  go_enter Tryz.func7, Tryz.ntmps7
  go_wp2_with fail
  refine (HF.out).mono ?_
  rintro e w0 ⟨rfl, hb0⟩
  have Hb0 := Lib.hid hb0; clear hb0
  go_wp2_with fail
  refine (aliveL_any _ (HD.out _ Hb0.out)).mono ?_
  rintro e w1 ⟨rfl, hb1⟩
  have Hb1 := Lib.hid (Hb0.out.trans (hb1.mono Hb0.out.size)); clear hb1
  go_wp2_with fail
  go_ret
  exact ⟨rfl, Hb1.out⟩
 | true =>
  rw [hf] at hFew
  have HF := Lib.hid hFew
  obtain ⟨hs, h12, h240⟩ := fewK_small hf
  have hCk := fun W (h : Below w.heap.size w W) => refCheck11_any a n cap k W (HE.out W h)
  cases hck : ckF k with
  | some ci =>
   obtain ⟨c, i⟩ := ci
   rw [hck] at hCk
   simp only [errOf, errCode, errAt] at hCk
   have HCk := Lib.hid hCk
   have hL := fun W (h : Below w.heap.size w W) => leastErr_any a n cap k W c i (HE.out W h) (HD.out W h) hck
   have hc0 := ckF_code hck
   have hc9 := ckF_le hck
   simp only at hc0 hc9
   have hne : ((c : Int) != 0) = true := by rw [bne_iff_ne]; omega
   have hCo := fun W (h : Below w.heap.size w W) => codeN_any limitsS c i W (HD.out W h)
   have hAt := fun W (h : Below w.heap.size w W) => atN_any limitsS c i W (HD.out W h)
   have hTx := fun W => namedText_any limitsS c i W (by omega) (by omega) (by decide)
   rw [limits_colon] at hTx
   unfold namV at hL hCo hAt
   have HL := Lib.hid hL; have HCo := Lib.hid hCo; have HAt := Lib.hid hAt; have HTx := Lib.hid hTx
   have HTe := Lib.hid (fun W => errnoText_any c W (by omega) (by omega))
   have hz := codeTxt_size c (by omega) (by omega)
   have mN := Tryz.methodErN (.agg #[.string limitsS, .iface 99 (.agg #[.int .i64 c, .int .i64 i])])
   clear hFew hCk hall hf hs h12 h240 hck hc0 hc9 hL hCo hAt hTx
   go_enter Tryz.func7, Tryz.ntmps7
   go_wp2_with fail
   refine (HF.out).mono ?_
   rintro e w0 ⟨rfl, hb0⟩
   have Hb0 := Lib.hid hb0; clear hb0
   go_wp2_with fail
   refine (HL.out _ Hb0.out).mono ?_
   rintro e w1 ⟨rfl, hb1⟩
   have hb1w := Hb0.out.trans (hb1.mono Hb0.out.size)
   have HX := Lib.hid (box5 w1 (.int .i64 0) (.int .i64 0) (.int .i64 0) (.int .i64 0) (.int .i64 0) 47)
   have Hb1 := Lib.hid (hb1w.alloc hb1w.size (.cells #[.int .i64 0, .int .i64 0, .int .i64 0, .int .i64 0, .int .i64 0] 47))
   clear hb1 hb1w
   go_wp2_with fail
   generalize w1.alloc (.cells #[.int .i64 0, .int .i64 0, .int .i64 0, .int .i64 0, .int .i64 0] 47) = W1 at *
   refine (HCk.out _ Hb1.out).mono ?_
   rintro e w2 ⟨rfl, hb2⟩
   have HX2 := Lib.hid (fun w' h => HX.out w' (hb2.trans (Below.mono h hb2.size)))
   have Hb2 := Lib.hid (Hb1.out.trans (hb2.mono Hb1.out.size)); clear hb2 HX
   go_wp2_with fail
   refine (aliveL_any _ (HD.out _ Hb2.out)).mono ?_
   rintro e w3 ⟨rfl, hb3⟩
   obtain ⟨x0, x1, x2, x3, x4⟩ := HX2.out _ hb3
   have Hb3 := Lib.hid (Hb2.out.trans (hb3.mono Hb2.out.size)); clear hb3
   go_wp2_with fail
   clear x0 x1 x2 x3 x4
   refine (HCo.out _ Hb3.out).mono ?_
   rintro e w4 ⟨rfl, hb4⟩
   have Hb4 := Lib.hid (Hb3.out.trans (hb4.mono Hb3.out.size)); clear hb4
   go_wp2_with fail
   refine (HAt.out _ Hb4.out).mono ?_
   rintro e w5 ⟨rfl, hb5⟩
   have Hb5 := Lib.hid (Hb4.out.trans (hb5.mono Hb4.out.size)); clear hb5
   go_wp2_with fail
   refine (HTx.out _).mono ?_
   rintro e w6 ⟨rfl, hb6⟩
   have Hb6 := Lib.hid (Hb5.out.trans (hb6.mono Hb5.out.size)); clear hb6
   go_wp2_with fail
   refine (HTe.out _).mono ?_
   rintro e w9 ⟨rfl, rfl⟩
   go_wp2_with fail
   go_ret
   exact ⟨rfl, Hb6.out⟩
  | none =>
   rw [hck] at hCk
   simp only [errOf, errCode, errAt] at hCk
   have HCk := Lib.hid hCk
   have hk := ltK_of hall hck
   have hL := fun W (h : Below w.heap.size w W) => least_any a n cap k W (HE.out W h) (HD.out W h) hck hs h240
   have hLs := fun W (h : Below w.heap.size w W) => refLeast22_any a n cap k W (HE.out W h) hk (small_fits hk hs) (Nat.le_trans (allL_len _) (by omega)) (canon_enc hk hs h240)
   generalize leastL (canonK k) = L at *
   unfold limV at hL hLs
   have HL := Lib.hid hL; have HLs := Lib.hid hLs
   clear hFew hCk hall hf hs h12 h240 hck hk hL hLs
   go_enter Tryz.func7, Tryz.ntmps7
   go_wp2_with fail
   refine (HF.out).mono ?_
   rintro e w0 ⟨rfl, hb0⟩
   have Hb0 := Lib.hid hb0; clear hb0
   go_wp2_with fail
   refine (HL.out _ Hb0.out).mono ?_
   rintro e w1 ⟨rfl, hb1⟩
   have hb1w := Hb0.out.trans (hb1.mono Hb0.out.size)
   have HX := Lib.hid (box5 w1 (.int .i64 L.1) (.int .i64 L.2.1) (.int .i64 L.2.2.1) (.int .i64 L.2.2.2.1) (.int .i64 L.2.2.2.2) 47)
   have Hb1 := Lib.hid (hb1w.alloc hb1w.size (.cells #[.int .i64 L.1, .int .i64 L.2.1, .int .i64 L.2.2.1, .int .i64 L.2.2.2.1, .int .i64 L.2.2.2.2] 47))
   clear hb1 hb1w
   go_wp2_with fail
   generalize w1.alloc (.cells #[.int .i64 L.1, .int .i64 L.2.1, .int .i64 L.2.2.1, .int .i64 L.2.2.2.1, .int .i64 L.2.2.2.2] 47) = W1 at *
   refine (HCk.out _ Hb1.out).mono ?_
   rintro e w2 ⟨rfl, hb2⟩
   have HX2 := Lib.hid (fun w' h => HX.out w' (hb2.trans (Below.mono h hb2.size)))
   have Hb2 := Lib.hid (Hb1.out.trans (hb2.mono Hb1.out.size)); clear hb2 HX
   have HDf := Lib.hid (fun w' (h : Below w2.heap.size w2 w') => HD.out w' (Hb2.out.trans (h.mono Hb2.out.size)))
   have HLf := Lib.hid (fun w' (h : Below w2.heap.size w2 w') => HLs.out w' (Hb2.out.trans (h.mono Hb2.out.size)))
   go_wp2_with fail
   refine wp_region_below (by kernel_rfl) (by kernel_rfl) ?_
   repeat (go_big_quiet_step ((intro hw; first
    | rfl
    | (go_at_call 22; exact keep_below hw (aliveL_any _ (HDf.out _ hw)))
    | (go_at_call 33; exact keep_below hw (HLf.out _ hw))
    | (obtain ⟨y0, y1, y2, y3, y4⟩ := HX2.out _ hw
       go_simp
       first | rfl | exact ⟨rfl, hw⟩ | (trace_state; fail)))))
   refine wpQuiet_nil ?_
   intro w5 hb5
   go_wp2
   go_ret
   exact ⟨rfl, Hb2.out.trans (hb5.mono Hb2.out.size)⟩
set_option maxRecDepth 100000 in
set_option maxHeartbeats 8000000 in
theorem walkLimitsFit (a : Option Addr) (n cap : Nat) (k : Kno) (l : Lim) (w : World) (hE : Frags w a n cap k) (hD : Door w) :
 Calls Tryz.prog 8 #[.slice a n cap, limV l] w fun e w' => e = .returned (.bool true) ∧ Below w.heap.size w w' := by
 obtain ⟨wB, hwB⟩ : ∃ wB, wB = w.alloc (.cells #[.int .i64 l.1, .int .i64 l.2.1, .int .i64 l.2.2.1, .int .i64 l.2.2.2.1, .int .i64 l.2.2.2.2] 47) := ⟨_, rfl⟩
 have hbB : Below w.heap.size w wB := by rw [hwB]; exact (Below.refl _ _).alloc (Nat.le_refl _) _
 have HY := Lib.hid (show ∀ w', Below wB.heap.size wB w' → _ from by rw [hwB]; exact box5 w (.int .i64 l.1) (.int .i64 l.2.1) (.int .i64 l.2.2.1) (.int .i64 l.2.2.2.1) (.int .i64 l.2.2.2.2) 47)
 have HwB := Lib.hid hwB; have HbB := Lib.hid hbB
 have HD := Lib.hid (fun W (h : Below wB.heap.size wB W) => hD.below (Nat.le_refl _) (hbB.trans (h.mono hbB.size)))
 have HE := Lib.hid (fun W (h : Below wB.heap.size wB W) => hE.below (hbB.trans (h.mono hbB.size)))
 have hFew := refFew11_any a n cap k wB (HE.out _ (Below.refl _ _))
 have hall := hE.all
 clear hD hE hwB hbB
 cases hf : fewK k with
 | false =>
  rw [hf] at hFew
  have HF := Lib.hid hFew
  clear hFew hf hall
  unfold limV
  go_enter Tryz.func8, Tryz.ntmps8
  go_wp2_with fail
  rw [← HwB.out]
  refine (HF.out).mono ?_
  rintro e w0 ⟨rfl, hb0⟩
  have Hb0 := Lib.hid hb0; clear hb0
  go_wp2_with fail
  refine (aliveL_any _ (HD.out _ Hb0.out)).mono ?_
  rintro e w1 ⟨rfl, hb1⟩
  have Hb1 := Lib.hid (Hb0.out.trans (hb1.mono Hb0.out.size)); clear hb1
  go_wp2_with fail
  go_ret
  exact ⟨rfl, HbB.out.trans (Hb1.out.mono HbB.out.size)⟩
 | true =>
  rw [hf] at hFew
  have HF := Lib.hid hFew
  obtain ⟨hs, h12, h240⟩ := fewK_small hf
  have hCk := fun W (h : Below wB.heap.size wB W) => refCheck11_any a n cap k W (HE.out W h)
  cases hck : ckF k with
  | some ci =>
   obtain ⟨c, i⟩ := ci
   rw [hck] at hCk
   simp only [errOf, errCode, errAt] at hCk
   have HCk := Lib.hid hCk
   have hL := fun W (h : Below wB.heap.size wB W) => fitsErr_any a n cap k l W c i (HE.out W h) (HD.out W h) hck
   have hc0 := ckF_code hck
   have hc9 := ckF_le hck
   simp only at hc0 hc9
   have hne : ((c : Int) != 0) = true := by rw [bne_iff_ne]; omega
   have hCo := fun W (h : Below wB.heap.size wB W) => codeN_any limitsS c i W (HD.out W h)
   have hAt := fun W (h : Below wB.heap.size wB W) => atN_any limitsS c i W (HD.out W h)
   have hTx := fun W => namedText_any limitsS c i W (by omega) (by omega) (by decide)
   rw [limits_colon] at hTx
   unfold namV at hL hCo hAt
   unfold limV at hL ⊢
   have HL := Lib.hid hL; have HCo := Lib.hid hCo; have HAt := Lib.hid hAt; have HTx := Lib.hid hTx
   have HTe := Lib.hid (fun W => errnoText_any c W (by omega) (by omega))
   have hz := codeTxt_size c (by omega) (by omega)
   have mN := Tryz.methodErN (.agg #[.string limitsS, .iface 99 (.agg #[.int .i64 c, .int .i64 i])])
   clear hFew hCk hall hf hs h12 h240 hck hc0 hc9 hL hCo hAt hTx
   go_enter Tryz.func8, Tryz.ntmps8
   go_wp2_with fail
   rw [← HwB.out]
   refine (HF.out).mono ?_
   rintro e w0 ⟨rfl, hb0⟩
   obtain ⟨y0, y1, y2, y3, y4⟩ := HY.out _ hb0
   have Hb0 := Lib.hid hb0; clear hb0
   go_wp2_with fail
   refine (HL.out _ Hb0.out).mono ?_
   rintro e w1 ⟨rfl, hb1⟩
   have Hb1 := Lib.hid (Hb0.out.trans (hb1.mono Hb0.out.size)); clear hb1 y0 y1 y2 y3 y4
   go_wp2_with fail
   refine (HCk.out _ Hb1.out).mono ?_
   rintro e w2 ⟨rfl, hb2⟩
   have Hb2 := Lib.hid (Hb1.out.trans (hb2.mono Hb1.out.size)); clear hb2
   go_wp2_with fail
   refine (aliveL_any _ (HD.out _ Hb2.out)).mono ?_
   rintro e w3 ⟨rfl, hb3⟩
   have Hb3 := Lib.hid (Hb2.out.trans (hb3.mono Hb2.out.size)); clear hb3
   go_wp2_with fail
   refine (HCo.out _ Hb3.out).mono ?_
   rintro e w4 ⟨rfl, hb4⟩
   have Hb4 := Lib.hid (Hb3.out.trans (hb4.mono Hb3.out.size)); clear hb4
   go_wp2_with fail
   refine (HAt.out _ Hb4.out).mono ?_
   rintro e w5 ⟨rfl, hb5⟩
   have Hb5 := Lib.hid (Hb4.out.trans (hb5.mono Hb4.out.size)); clear hb5
   go_wp2_with fail
   refine (HTx.out _).mono ?_
   rintro e w6 ⟨rfl, hb6⟩
   have Hb6 := Lib.hid (Hb5.out.trans (hb6.mono Hb5.out.size)); clear hb6
   go_wp2_with fail
   refine (HTe.out _).mono ?_
   rintro e w9 ⟨rfl, rfl⟩
   go_wp2_with fail
   go_ret
   exact ⟨rfl, HbB.out.trans (Hb6.out.mono HbB.out.size)⟩
  | none =>
   rw [hck] at hCk
   simp only [errOf, errCode, errAt] at hCk
   have HCk := Lib.hid hCk
   have hk := ltK_of hall hck
   have hL := fun W (h : Below wB.heap.size wB W) => fits_any a n cap k l W (HE.out W h) (HD.out W h) hck hs h240
   have hLs := fun W (h : Below wB.heap.size wB W) => refLeast22_any a n cap k W (HE.out W h) hk (small_fits hk hs) (Nat.le_trans (allL_len _) (by omega)) (canon_enc hk hs h240)
   have hX := fun W => refExceeds_any (leastL (canonK k)) l W
   unfold fitsE at hL
   generalize leastL (canonK k) = L at *
   cases hx : limX L l with
   | none =>
    rw [hx] at hL hX
    simp only [Option.map_none, errOf, errVal, intO] at hL hX
    unfold limV at hL hLs hX ⊢
    have HL := Lib.hid hL; have HLs := Lib.hid hLs; have HX := Lib.hid hX
    clear hFew hCk hall hf hs h12 h240 hck hk hL hLs hX hx
    go_enter Tryz.func8, Tryz.ntmps8
    go_wp2_with fail
    rw [← HwB.out]
    refine (HF.out).mono ?_
    rintro e w0 ⟨rfl, hb0⟩
    obtain ⟨y0, y1, y2, y3, y4⟩ := HY.out _ hb0
    have Hb0 := Lib.hid hb0; clear hb0
    go_wp2_with fail
    refine (HL.out _ Hb0.out).mono ?_
    rintro e w1 ⟨rfl, hb1⟩
    have Hb1 := Lib.hid (Hb0.out.trans (hb1.mono Hb0.out.size)); clear hb1 y0 y1 y2 y3 y4
    go_wp2_with fail
    refine (HCk.out _ Hb1.out).mono ?_
    rintro e w2 ⟨rfl, hb2⟩
    have Hb2 := Lib.hid (Hb1.out.trans (hb2.mono Hb1.out.size)); clear hb2
    go_wp2_with fail
    have HYf := Lib.hid (fun w' (h : Below w2.heap.size w2 w') => HY.out w' (Hb2.out.trans (h.mono Hb2.out.size)))
    have HLf := Lib.hid (fun w' (h : Below w2.heap.size w2 w') => HLs.out w' (Hb2.out.trans (h.mono Hb2.out.size)))
    refine wp_region_below (by kernel_rfl) (by kernel_rfl) ?_
    repeat (go_big_quiet_step ((intro hw; first
     | rfl
     | (go_at_call 33; exact keep_below hw (HLf.out _ hw))
     | (go_at_call 27; exact keep_below hw (HX.out _))
     | (obtain ⟨y0, y1, y2, y3, y4⟩ := HYf.out _ hw
        go_simp
        first | rfl | exact ⟨rfl, hw⟩ | (trace_state; fail)))))
    refine wpQuiet_nil ?_
    intro w3 hb3
    have Hb3 := Lib.hid (Hb2.out.trans (hb3.mono Hb2.out.size)); clear hb3
    go_wp2_with fail
    refine (aliveL_any _ (HD.out _ Hb3.out)).mono ?_
    rintro e w4 ⟨rfl, hb4⟩
    have Hb4 := Lib.hid (Hb3.out.trans (hb4.mono Hb3.out.size)); clear hb4
    go_wp2_with fail
    go_ret
    exact ⟨rfl, HbB.out.trans (Hb4.out.mono HbB.out.size)⟩
   | some i =>
    rw [hx] at hL hX
    simp only [Option.map_some, errOf, errVal, intO] at hL hX
    unfold limV at hL hLs hX ⊢
    have hd : decide ((i : Int) < 0) = false := by rw [decide_eq_false_iff_not]; omega
    have HL := Lib.hid hL; have HLs := Lib.hid hLs; have HX := Lib.hid hX
    clear hFew hCk hall hf hs h12 h240 hck hk hL hLs hX hx
    go_enter Tryz.func8, Tryz.ntmps8
    go_wp2_with fail
    rw [← HwB.out]
    refine (HF.out).mono ?_
    rintro e w0 ⟨rfl, hb0⟩
    obtain ⟨y0, y1, y2, y3, y4⟩ := HY.out _ hb0
    have Hb0 := Lib.hid hb0; clear hb0
    go_wp2_with fail
    refine (HL.out _ Hb0.out).mono ?_
    rintro e w1 ⟨rfl, hb1⟩
    have Hb1 := Lib.hid (Hb0.out.trans (hb1.mono Hb0.out.size)); clear hb1 y0 y1 y2 y3 y4
    go_wp2_with fail
    refine (HCk.out _ Hb1.out).mono ?_
    rintro e w2 ⟨rfl, hb2⟩
    have Hb2 := Lib.hid (Hb1.out.trans (hb2.mono Hb1.out.size)); clear hb2
    go_wp2_with fail
    have HYf := Lib.hid (fun w' (h : Below w2.heap.size w2 w') => HY.out w' (Hb2.out.trans (h.mono Hb2.out.size)))
    have HLf := Lib.hid (fun w' (h : Below w2.heap.size w2 w') => HLs.out w' (Hb2.out.trans (h.mono Hb2.out.size)))
    refine wp_region_below (by kernel_rfl) (by kernel_rfl) ?_
    repeat (go_big_quiet_step ((intro hw; first
     | rfl
     | (go_at_call 33; exact keep_below hw (HLf.out _ hw))
     | (go_at_call 27; exact keep_below hw (HX.out _))
     | (obtain ⟨y0, y1, y2, y3, y4⟩ := HYf.out _ hw
        go_simp
        first | rfl | exact ⟨rfl, hw⟩ | (trace_state; fail)))))
    refine wpQuiet_nil ?_
    intro w3 hb3
    have Hb3 := Lib.hid (Hb2.out.trans (hb3.mono Hb2.out.size)); clear hb3
    go_wp2_with fail
    refine (aliveL_any _ (HD.out _ Hb3.out)).mono ?_
    rintro e w4 ⟨rfl, hb4⟩
    have Hb4 := Lib.hid (Hb3.out.trans (hb4.mono Hb3.out.size)); clear hb4
    go_wp2_with fail
    refine (code_any (some ((7 : Int), some (i : Int))) _ (HD.out _ Hb4.out)).mono ?_
    rintro e w5 ⟨rfl, hb5⟩
    have Hb5 := Lib.hid (Hb4.out.trans (hb5.mono Hb4.out.size)); clear hb5
    go_wp2_with fail
    refine (at_any (some ((7 : Int), some (i : Int))) _ (HD.out _ Hb5.out)).mono ?_
    rintro e w6 ⟨rfl, hb6⟩
    simp only [errAt]
    have Hb6 := Lib.hid (Hb5.out.trans (hb6.mono Hb5.out.size)); clear hb6
    go_wp2_with fail
    go_ret
    exact ⟨rfl, HbB.out.trans (Hb6.out.mono HbB.out.size)⟩
end
end Go.Proofs.YtkkdlgcfcbaibaaGreatDoor
