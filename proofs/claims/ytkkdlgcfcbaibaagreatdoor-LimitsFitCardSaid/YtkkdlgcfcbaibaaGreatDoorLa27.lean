/- Walks and laws, joined: La27. -/
import Derived.Test.YtkkdlgcfcbaibaaGreatDoorLa26
import Derived.Test.YtkkdlgcfcbaibaaGreatDoorLa18
import Derived.Test.YtkkdlgcfcbaibaaGreatDoorLa24
import Derived.Test.YtkkdlgcfcbaibaaGreatDoorLa13
import Derived.Test.YtkkdlgcfcbaibaaGreatDoorLa17
import Derived.Test.YtkkdlgcfcbaibaaGreatDoorLa23
import Derived.Test.YtkkdlgcfcbaibaaGreatDoorLa19
set_option linter.unusedVariables false
namespace Go.Proofs.YtkkdlgcfcbaibaaGreatDoor
section
open Go.RowKit Go.Shelf
attribute [local go_sem] Oper.semAt_some wide_fn
theorem latUnion_any (a b : Option Addr) (n c m d : Nat) (va vb : Vec) (w : World) (hA : Ents w a n c va) (hB : Ents w b m d vb) (fa : VecFits va) (fb : VecFits vb) (ca : ckV va = none) (cb : ckV vb = none) :
 Calls Tryz.prog 161 #[.slice a n c, .slice b m d] w fun e w' => (∃ y, e = .returned y ∧ OwnV2 w' w.heap.size y (doV gOr va vb)) ∧ Below w.heap.size w w' := by
 have hC := Lib.hid (doU_any a b n c m d va vb w hA hB fa fb ca cb)
 clear hA hB fa fb ca cb
 go_enter Tryz.func161, Tryz.ntmps161
 go_wp2_with fail
 refine hC.out.mono ?_
 rintro e w1 ⟨⟨y, rfl, ho⟩, hb⟩
 have Ho := Lib.hid ho; have Hb := Lib.hid hb
 clear ho hb
 go_wp2
 go_ret
 exact ⟨⟨y, rfl, Ho.out⟩, Hb.out⟩
def foldM (k : Kno) (P : List Nat) : Vec := P.foldl (fun V i => doV gOr V (nthF k i).2) []
theorem foldM_snoc (k : Kno) (P : List Nat) (i : Nat) : foldM k (P ++ [i]) = doV gOr (foldM k P) (nthF k i).2 := by simp [foldM]
theorem memTo_prefix (k : Kno) (t : Nat) : ∀ (n : Nat) (P rest : List Nat), memTo k t n = P ++ rest → ∃ d, d ≤ n ∧ P = memTo k t d
 | 0, P, rest, h => by
   have h0 : memTo k t 0 = [] := rfl
   rw [h0] at h
   obtain ⟨h1, -⟩ := List.append_eq_nil_iff.1 h.symm
   exact ⟨0, Nat.le_refl _, by rw [h1]; rfl⟩
 | n + 1, P, rest, h => by
   rcases nil_or_snoc rest with rfl | ⟨l, x, rfl⟩
   · exact ⟨n + 1, Nat.le_refl _, by rw [h]; simp⟩
   · rw [memTo_succ] at h
     by_cases hm : mem (nthF k n).1 t = true
     · rw [if_pos hm, ← List.append_assoc] at h
       have h2 := (List.append_inj' h rfl).1
       obtain ⟨d, hd, e⟩ := memTo_prefix k t n P l h2
       exact ⟨d, by omega, e⟩
     · rw [if_neg hm, List.append_nil] at h
       obtain ⟨d, hd, e⟩ := memTo_prefix k t n P _ h
       exact ⟨d, by omega, e⟩
theorem foldM_memTo (k : Kno) (t : Nat) : ∀ d, d ≤ k.length → foldM k (memTo k t d) = atTo k t d
 | 0, _ => rfl
 | d + 1, h => by
   rw [memTo_succ, atTo_succ (by omega)]
   by_cases hm : mem (nthF k d).1 t = true
   · rw [if_pos hm, if_pos hm, foldM_snoc, foldM_memTo k t d (by omega)]
   · rw [if_neg hm, if_neg hm, List.append_nil, foldM_memTo k t d (by omega)]
theorem foldM_pre {k : Kno} {t : Nat} {P rest : List Nat} (h : membersK k t = P ++ rest) : ∃ d, d ≤ k.length ∧ foldM k P = atTo k t d := by
 obtain ⟨d, hd, rfl⟩ := memTo_prefix k t k.length P rest h
 exact ⟨d, hd, foldM_memTo k t d hd⟩
theorem canV_ck {v : Vec} (h : CanV v) : ckV v = none := by
 have := canVB_iff.2 h
 simp only [canVB, Bool.and_eq_true, decide_eq_true_eq] at this
 exact this.1
theorem atTo_can {k : Kno} (h : LtK k) (x d : Nat) : CanV (atTo k x d) := (atK_can (fun f hf => h f (List.mem_of_mem_take hf)) x).1
structure Joins (k : Kno) : Prop where
 fits : KnoFits k
 lt : LtK k
 ck : ∀ f ∈ k, ckV f.2 = none
 good : ∀ f ∈ k, Good f.1
theorem at1_any (y : Value) (V : Vec) (U : Vec) (i : Nat) (s1 : Value) (b : Option Addr) (m c B : Nat) (w : World) (ho : OwnV2 w B y V) (lV : LtV V) (hU : Ents w b m c U) (fV : VecFits V) (fU : VecFits U) (cV : ckV V = none) (cU : ckV U = none) :
 Calls Tryz.prog 160 #[y, .int .i64 ((i : Nat) : Int), .agg #[s1, .slice b m c]] w fun e w' => (∃ v, e = .returned v ∧ OwnV2 w' w.heap.size v (doV gOr V U)) ∧ Below w.heap.size w w' := by
 obtain ⟨a, ca, rfl, hV⟩ := ho.toOwnV.ents lV
 have hal : Below w.heap.size w (w.alloc (.cells #[s1, .slice b m c] 39)) := (Below.refl _ _).alloc (Nat.le_refl _) _
 have hC := Lib.hid (latUnion_any a b V.length ca m c V U _ (hV.below hal) (hU.below hal) fV fU cV cU)
 have Hal := Lib.hid hal
 clear ho hV hU fV fU cV cU hal
 go_enter Tryz.func160, Tryz.ntmps160
 go_wp2_with fail
 refine hC.out.mono ?_
 rintro e w1 ⟨⟨v, rfl, ho⟩, hb⟩
 have Ho := Lib.hid ho; have Hb := Lib.hid hb
 clear ho hb
 go_wp2
 go_ret
 exact ⟨⟨v, rfl, Ho.out.lower Hal.out.size⟩, Hal.out.trans (Hb.out.mono Hal.out.size)⟩
set_option maxRecDepth 20000 in
set_option maxHeartbeats 4000000 in
theorem foldAt_any (w0 w : World) (bk bt : Nat) (a : Option Addr) (m c t : Nat) (k : Kno) (hE : Frags w0 a m c k) (hJ : Joins k) (hb0 : Below w0.heap.size w0 w)
 (hbk : w.heap[bk]? = some (.cells #[.slice a m c] 23)) (hbt : w.heap[bt]? = some (.cells #[.int .u64 t] 24)) :
 Calls Tryz.prog 158 #[.func (.func 193) #[] #[.pointer (some ⟨bk, 0, none⟩), .pointer (some ⟨bt, 0, none⟩)], .slice none 0 0, .func (.func 160) #[] #[]] w fun e w' =>
  (∃ y, e = .returned y ∧ OwnV2 w' w.heap.size y (atK k t)) ∧ Below w.heap.size w w' := by
 have hm : m ≤ 500 := by have := hE.len; have := hJ.fits.len; omega
 have hG : ∀ f ∈ k, Good f.1 ∧ f.1.length ≤ 1000000 := fun f hf => ⟨hJ.good f hf, by have := hJ.fits.items f hf; omega⟩
 have hbkl := (Array.getElem?_eq_some_iff.1 hbk).1
 have hbtl := (Array.getElem?_eq_some_iff.1 hbt).1
 have hs0 := hb0.size
 have HJ := Lib.hid hJ
 have HE0 := Lib.hid hE
 have Hb00 := Lib.hid hb0
 refine (callsIn_wide (n := 3)).1 ?_
 refine callsIn_of_wp_marks Tryz.func158 rfl trivial ?_ rfl
 simp only [Tryz.ntmps158, List.size_toArray, List.length_cons, List.length_nil, Nat.reduceAdd, Nat.reduceSub, Array.replicate_succ, Array.replicate_zero, List.push_toArray, List.append_toArray, List.nil_append, List.cons_append]
 refine wpIn_wide.2 ?_
 go_wp2
 refine (wpIn_wide (n := 3)).1 ?_
 obtain ⟨C0, hC0⟩ : ∃ C0 : Obj, C0 = .cells #[.slice none 0 0] 37 := ⟨_, rfl⟩
 obtain ⟨C1, hC1⟩ : ∃ C1 : Obj, C1 = .cells #[.func (.func 160) #[] #[]] 217 := ⟨_, rfl⟩
 rw [← hC0, ← hC1]
 obtain ⟨wl, hwl⟩ : ∃ wl : World, wl = (w.alloc C0).alloc C1 := ⟨_, rfl⟩
 rw [← hwl]
 have hsz : wl.heap.size = w.heap.size + 2 := by rw [hwl]; simp
 have hbw : Below w.heap.size w wl := by
  rw [hwl]
  exact ((Below.refl _ w).alloc (Nat.le_refl _) C0).alloc (by simp) C1
 have e0 : wl.heap[w.heap.size]? = some C0 := by rw [hwl]; exact row_old (row_new rfl)
 have e1 : wl.heap[w.heap.size + 1]? = some C1 := by rw [hwl]; exact row_new (by simp)
 clear hwl
 refine wp_range (n := 3) (gf := 193) (lb := #[.pointer (some ⟨bk, 0, none⟩), .pointer (some ⟨bt, 0, none⟩)]) rfl (enters_of Tryz.func193 (by kernel_rfl) rfl)
  (with_seq (3 - 1) w0 wl bk bt a m c t k hE hG (hb0.trans (hbw.mono hs0)) hm ((hbw.block _ hbkl).trans hbk) ((hbw.block _ hbtl).trans hbt))
  (fun x => rfl) (fun k hk => hk.elim) (fun k hk => by omega)
  (fun pre W => Below w.heap.size w W ∧ W.heap[w.heap.size + 1]? = some C1 ∧ ∃ v, W.heap[w.heap.size]? = some (.cells #[v] 37) ∧ OwnV2 W (w.heap.size + 4) v (foldM k (pre.map (·.1))))
  (fun _ _ _ => False) ?hI (fun _ _ _ _ h _ => h) ⟨hbw, e1, .slice none 0 0, by rw [e0, hC0], ownV2_nil ..⟩ ?round ?done ?stop
 case hI =>
  rintro s A B ⟨h4, h1, v, h2, h3⟩ hk
  have hs := h4.size
  exact ⟨h4.trans (hk.toBelow (fun k hk' => ⟨id, by omega, by omega⟩) (by omega)), (hk.row _ (Array.getElem?_eq_some_iff.1 h1).1 ⟨id, by omega, by omega⟩).trans h1, v, (hk.row _ (Array.getElem?_eq_some_iff.1 h2).1 ⟨id, by omega, by omega⟩).trans h2, h3.same (fun k hk1 hk2 => hk.row k hk2 ⟨id, by omega, by omega⟩)⟩
 case round =>
  rintro pre ⟨i, s1, s2⟩ W ⟨⟨rest, hV⟩, hsl⟩ ⟨h4, h1, y, h2, h3⟩ hsW
  obtain ⟨⟨a1, n1, z1, e1', -⟩, a2, n2, z2, e2', hE2⟩ := hsl (i, s1, s2) (by simp)
  simp only at e1' e2' hE2
  subst e1' e2'
  clear hsl
  rw [hsz] at hsW ⊢
  have hik : i < k.length := by
   have : i ∈ membersK k t := by rw [hV]; simp
   exact (members_mem.1 this).1
  have hpre : ∃ d, d ≤ k.length ∧ foldM k (pre.map (·.1)) = atTo k t d := by
   rw [List.map_append, List.append_assoc] at hV
   exact foldM_pre hV
  obtain ⟨d, hd, hfd⟩ := hpre
  have Hst := Lib.hid (show foldM k ((pre ++ [((i, .slice a1 n1 z1, .slice a2 n2 z2) : WEl)]).map (·.1)) = doV gOr (foldM k (pre.map (·.1))) (nthF k i).2 from by
   rw [List.map_append]; exact foldM_snoc _ _ _)
  have hlV : LtV (foldM k (pre.map (·.1))) := by rw [hfd]; exact ltV_atTo HJ.out.lt t d
  have hfV : VecFits (foldM k (pre.map (·.1))) := by rw [hfd]; exact HJ.out.fits.at_ t d
  have hcV : ckV (foldM k (pre.map (·.1))) = none := by rw [hfd]; exact canV_ck (atTo_can HJ.out.lt t d)
  have hfU : VecFits (nthF k i).2 := HJ.out.fits.vec _ (nthF_mem hik)
  have hcU : ckV (nthF k i).2 = none := HJ.out.ck _ (nthF_mem hik)
  generalize foldM k (pre.map (·.1)) = V at *
  generalize (nthF k i).2 = U at *
  clear hsz hbw e0 e1 hC0 hV hE hG hbk hbt hb0 hfd hJ
  simp only [wEnc]
  obtain ⟨q, hq⟩ : ∃ q : Nat, q = W.heap.size := ⟨_, rfl⟩
  gi_wp2
  refine ⟨(Kept.refl _ W).alloc _, fun W2 hk2 hs2 => ?_⟩
  try rw [World.size_alloc] at hs2
  have k1 : Kept (fun k => k ≠ w.heap.size + 2 + 1) W W2 := ((Kept.refl _ W).alloc _).trans hk2
  have b1 : W2.heap[w.heap.size + 1]? = some C1 := (k1.row _ (Array.getElem?_eq_some_iff.1 h1).1 (by omega)).trans h1
  have b2 : W2.heap[w.heap.size]? = some (.cells #[y] 37) := (k1.row _ (Array.getElem?_eq_some_iff.1 h2).1 (by omega)).trans h2
  have b4 : W2.heap[q]? = some (.cells #[.slice a1 n1 z1, .slice a2 n2 z2] 39) := by rw [hq]; exact (hk2.row _ (by simp) (by omega)).trans (row_new rfl)
  have hB3 : OwnV2 W2 (w.heap.size + 4) y V := h3.same (fun k hk1 hk2 => k1.row k hk2 (by omega))
  have B4 := Lib.hid (h4.trans (k1.toBelow (n := w.heap.size) (fun k hk' => by omega) h4.size))
  rw [← hq]
  have hB4 : w.heap.size + 4 ≤ W2.heap.size := by omega
  have Hb1 := Lib.hid b1; have Hb2 := Lib.hid b2
  rw [hC1] at b1
  have c0 := box_cell b1
  have c1 := box_cell b2
  have c2 : W2.cell? ⟨q, 0, none⟩ = some (.slice a1 n1 z1) := cells_cell (i := 0) b4 rfl
  have c3 : W2.cell? ⟨q, 1, none⟩ = some (.slice a2 n2 z2) := cells_cell (i := 1) b4 rfl
  have HC1 := Lib.hid hC1
  have hF := Lib.hid (at1_any y V U i (.slice a1 n1 z1) a2 n2 z2 _ W2 hB3 hlV (hE2.below (Hb00.out.trans (B4.out.mono hs0))) hfV hfU hcV hcU)
  clear k1 hk2 hs2 h1 h2 h3 h4 b1 b2 b4 hq hsW hC1 hB3 hE2 hlV hfV hcV hfU hcU
  gi_wp2_with fail
  refine (CallsIn.inRound _ (callsIn_wide.2 hF.out)).mono ?_
  rintro e w3 ⟨⟨v, rfl, ho3⟩, hb3⟩
  have d2 := (hb3.block _ (by omega)).trans Hb2.out
  have d1 := (hb3.block _ (by omega)).trans Hb1.out
  have q5 := box_cell d2
  have q6 := box_frozen d2
  have Hd2 := Lib.hid d2; have Hd1 := Lib.hid d1; have Ho3 := Lib.hid ho3; have Hb3 := Lib.hid hb3
  obtain ⟨av, nv, cv, rfl⟩ : ∃ a n c, v = .slice a n c := by
   obtain ⟨ss, h, -⟩ := ho3
   obtain ⟨a, c, e⟩ := own_slice h
   exact ⟨a, _, c, e⟩
  clear c0 c1 c2 c3 d1 d2 ho3 hb3
  gi_wp2
  refine ⟨?_, ?_, ?_, _, box_set Hd2.out, ?_⟩
  · exact ((kept_of_below Hb3.out).mono (fun k _ hk => by omega)).setCell (fun _ => by simp only; omega) _
  · exact (B4.out.trans (Hb3.out.mono (by omega))).setCell (Nat.le_refl _) _
  · exact (Below.heap_setCell _ _ _ _ (by simp)).trans Hd1.out
  · rw [Hst.out]
    exact (Ho3.out.lower hB4).same (fun k hk1 hk2 => Below.heap_setCell _ _ _ _ (by simp only; omega))
 case done =>
  rintro ps W ⟨hS, -⟩ ⟨h4, h1, y, h2, h3⟩ hK
  have q1 := box_cell h2
  have hfin : foldM k (ps.map (·.1)) = atK k t := by
   rw [← hS, ← atTo_all]; exact foldM_memTo k t k.length (Nat.le_refl _)
  rw [hfin] at h3
  have H3 := Lib.hid h3; have H4 := Lib.hid h4
  clear h1 h2 h3 h4 e0 e1 hS
  gi_wp2
  go_wp2
  refine ⟨by simp, .inl ⟨_, _, rfl, run_takeDeferred hK, ?_⟩⟩
  refine ⟨_, results_tmp rfl _ _ _, ⟨y, rfl, ?_⟩, ?_⟩
  · exact (H3.out.same (fun k hk1 hk2 => World.putObj_heap_other (by omega))).lower (by omega)
  · exact (Kept.refl (fun k => k < w.heap.size) W).putObj (fun _ h => by have h' : wl.heap.size < w.heap.size := h; omega) _ |>.toBelow (fun _ h => h) H4.out.size |> H4.out.trans
 case stop =>
  rintro c pre W hV h
  exact h.elim
theorem scoAt_any (a : Option Addr) (m c t : Nat) (k : Kno) (w : World) (hE : Frags w a m c k) (hJ : Joins k) :
 Calls Tryz.prog 111 #[.slice a m c, .int .u64 t] w fun e w' => (∃ y, e = .returned y ∧ OwnV2 w' w.heap.size y (atK k t)) ∧ Below w.heap.size w w' := by
 have hal : Below w.heap.size w ((w.alloc (.cells #[.slice a m c] 23)).alloc (.cells #[.int .u64 t] 24)) := ((Below.refl _ _).alloc (Nat.le_refl _) _).alloc (by simp) _
 have hC := Lib.hid (foldAt_any w ((w.alloc (.cells #[.slice a m c] 23)).alloc (.cells #[.int .u64 t] 24)) w.heap.size (w.heap.size + 1) a m c t k hE hJ hal (row_old (row_new rfl)) (row_new (by simp)))
 have Hal := Lib.hid hal
 clear hE hJ hal
 go_enter Tryz.func111, Tryz.ntmps111
 go_wp2_with fail
 refine (with_any a m c t _).mono ?_
 rintro e w1 ⟨rfl, rfl⟩
 go_wp2_with fail
 refine hC.out.mono ?_
 rintro e w2 ⟨⟨y, rfl, ho⟩, hb⟩
 have Ho := Lib.hid ho; have Hb := Lib.hid hb
 clear ho hb
 go_wp2
 go_ret
 exact ⟨⟨y, rfl, Ho.out.lower Hal.out.size⟩, Hal.out.trans (Hb.out.mono Hal.out.size)⟩
end
section
structure SmallK (k : Kno) : Prop where
 len : k.length ≤ 15
 items : ∀ f ∈ k, f.1.length ≤ 20
 vec : ∀ f ∈ k, f.2.length ≤ 20
 holes : ∀ f ∈ k, ∀ e ∈ f.2, e.2.2.length ≤ 30
theorem fewF_iff {f : Frg} : fewF f = true ↔ f.1.length ≤ 20 ∧ f.2.length ≤ 20 ∧ ∀ e ∈ f.2, e.2.2.length ≤ 30 := by
 simp only [fewF, fewV, Bool.and_eq_true, decide_eq_true_eq, List.all_eq_true]
 constructor
 · rintro ⟨h1, h2, h3⟩; exact ⟨h1, h3, h2⟩
 · rintro ⟨h1, h2, h3⟩; exact ⟨h1, h3, h2⟩
theorem isum_le {m : Nat} : ∀ {k : Kno}, (∀ f ∈ k, f.1.length ≤ m) → isum k ≤ m * k.length
 | [], _ => by simp [isum]
 | f :: k, h => by
   rw [isum, List.length_cons, Nat.mul_succ]
   have h1 := h f List.mem_cons_self
   have h2 := isum_le (k := k) fun g hg => h g (List.mem_cons_of_mem _ hg)
   omega
theorem fewK_small {k : Kno} (h : fewK k = true) : SmallK k ∧ k.length ≤ 12 ∧ isum k ≤ 240 := by
 simp only [fewK, Bool.and_eq_true, decide_eq_true_eq, List.all_eq_true] at h
 have hf := fun f hf => fewF_iff.1 (h.1 f hf)
 refine ⟨⟨by omega, fun f h => (hf f h).1, fun f h => (hf f h).2.1, fun f h => (hf f h).2.2⟩, h.2, ?_⟩
 have := isum_le (m := 20) (k := k) fun f h => (hf f h).1
 omega
theorem allL_len (k : Kno) : (allL (k.map (·.1))).length ≤ 1 + isum k * 2 := by
 unfold allL
 rw [List.length_cons]
 induction k with
 | nil => simp [isum]
 | cons f k ih =>
  rw [List.map_cons, List.flatMap_cons, List.length_append, isum]
  have := bnds_len f.1
  omega
theorem startsK_le (k : Kno) : (startsK k).length ≤ 1 + isum k * 2 := by
 refine Nat.le_trans (List.length_filter_le _ _) (Nat.le_trans ?_ (allL_len k))
 unfold allK
 exact asc_len (sortA_asc _) (fun y hy => (sortA_mem _ _).1 hy)
theorem doV_len (g : Bool → Bool → Bool) (a b : Vec) : (doV g a b).length ≤ a.length + b.length := by
 unfold doV
 refine Nat.le_trans (List.length_filterMap_le _ _) ?_
 unfold repsV
 have := asc_len (sortA_asc (a.map (·.1) ++ b.map (·.1))) (M := a.map (·.1) ++ b.map (·.1)) (fun y hy => (sortA_mem _ _).1 hy)
 simpa using this
theorem knownAt_doV {a b : Vec} (ha : LtV a) (hb : LtV b) (pa : a.Pairwise RepLt) (pb : b.Pairwise RepLt) (r : Nat) : knownAt (doV gOr a b) r = opL gOr (knownAt a r) (knownAt b r) := by
 obtain ⟨c1, c2, c3⟩ := doV_can (g := gOr) rfl ha hb pa pb
 have ho := opL_good (g := gOr) (knownAt_lt ha r) (knownAt_lt hb r) rfl
 refine good_ext (knownAt_good c2 r) ho.1 fun x => ?_
 rw [knownAt_mem c2 c1.asc, c3, ho.2.1, knownAt_mem ha pa, knownAt_mem hb pb]
theorem knownAt_le {v : Vec} (hl : LtV v) {m : Nat} (h : ∀ e ∈ v, e.2.2.length ≤ m) (r : Nat) : (knownAt v r).length ≤ 1 + m := by
 unfold knownAt
 split
 · rename_i e he
   have hm := List.mem_of_find?_eq_some he
   have := knownL_len (hl e hm).holes (hl e hm).max
   have := h e hm
   omega
 · simp
theorem knownAt_of {v : Vec} (ha : v.Pairwise RepLt) {e : Ent} (he : e ∈ v) : knownAt v e.1 = knownL e := by
 unfold knownAt
 cases hf : v.find? (fun f => decide (f.1 = e.1)) with
 | none => exact absurd (decide_eq_true rfl) (List.find?_eq_none.1 hf e he)
 | some f =>
  have h1 := List.mem_of_find?_eq_some hf
  have h2 : f.1 = e.1 := by have := List.find?_some hf; exact of_decide_eq_true this
  rw [rep_unique ha h1 he (by omega)]
theorem atTo_len {k : Kno} (hk : LtK k) (hs : SmallK k) (x : Nat) : ∀ d, d ≤ k.length → (atTo k x d).length ≤ 20 * d ∧ ∀ r, (knownAt (atTo k x d) r).length ≤ 31 * d
 | 0, _ => ⟨by simp [atTo_zero], fun r => by simp [atTo_zero, knownAt]⟩
 | d + 1, h => by
   obtain ⟨h1, h2⟩ := atTo_len hk hs x d (by omega)
   rw [atTo_succ (by omega)]
   have hm := nthF_mem (k := k) (i := d) (by omega)
   split
   · have hc := atTo_can hk x d
     have hl := ltV_atTo hk x d
     refine ⟨?_, fun r => ?_⟩
     · have := doV_len gOr (atTo k x d) (nthF k d).2
       have := hs.vec _ hm
       omega
     · rw [knownAt_doV hl (hk _ hm).vec hc.asc (hk _ hm).asc]
       have a1 := opL_len_or (knownAt_lt hl r) (knownAt_lt (hk _ hm).vec r)
       have a2 := knownAt_le (hk _ hm).vec (hs.holes _ hm) r
       have := h2 r
       omega
   · exact ⟨by omega, fun r => by have := h2 r; omega⟩
theorem vec_fits {v : Vec} (hc : CanV v) (hl : LtV v) (h1 : v.length ≤ 300) (h2 : ∀ r, (knownAt v r).length ≤ 499) : VecFits v := by
 refine ⟨h1, fun e he => ?_⟩
 have h3 := canonE_self (hl e he) (hc.ent e he)
 unfold canonE at h3
 have h4 := ofE_len (knownL_good (hl e he)).2.2 h3
 have h5 := h2 e.1
 rw [knownAt_of hc.asc he] at h5
 omega
theorem atTo_min (k : Kno) (x d : Nat) : atTo k x d = atTo k x (min d k.length) := by
 unfold atTo
 rw [List.take_eq_take_min]
theorem small_fits {k : Kno} (hk : LtK k) (hs : SmallK k) : KnoFits k := by
 refine ⟨by have := hs.len; omega, fun f hf => by have := hs.items f hf; omega, fun f hf => ⟨by have := hs.vec f hf; omega, fun e he => by have := hs.holes f hf e he; omega⟩, fun x d => ?_⟩
 rw [atTo_min]
 obtain ⟨h1, h2⟩ := atTo_len hk hs x (min d k.length) (Nat.min_le_right ..)
 have := hs.len
 have hm : min d k.length ≤ 15 := Nat.le_trans (Nat.min_le_right ..) hs.len
 exact vec_fits (atTo_can hk x _) (ltV_atTo hk x _) (by omega) (fun r => by have := h2 r; omega)
theorem small_joins {k : Kno} (hk : LtK k) (hs : SmallK k) (hc : ckF k = none) : Joins k :=
 ⟨small_fits hk hs, hk, fun f hf => ((ckF_none.1 hc) f hf).2, fun f hf => ((ckF_none.1 hc) f hf).1⟩
theorem ltK_of {k : Kno} (h : ∀ f ∈ k, Lt64 f.1 ∧ LtV f.2) (hc : ckF k = none) : LtK k := fun f hf => ⟨(h f hf).1, (h f hf).2, (ckV_none.1 ((ckF_none.1 hc) f hf).2).1⟩
theorem doV_same {u v : Vec} (hv : LtV v) (cv : CanV v) (h : u = [] ∨ u = v) : doV gOr u v = v := by
 have hu : LtV u ∧ u.Pairwise RepLt := by
  rcases h with rfl | rfl
  · exact ⟨(fun e he => by cases he), List.Pairwise.nil⟩
  · exact ⟨hv, cv.asc⟩
 obtain ⟨c1, c2, c3⟩ := doV_can (g := gOr) rfl hu.1 hv hu.2 cv.asc
 refine canV_ext c1 cv fun r c => ?_
 rw [c3]
 rcases h with rfl | rfl
 · have : knownV ([] : Vec) r c = false := by
    rw [← Bool.not_eq_true]; intro h; exact known_ne h rfl
   rw [this]; simp [gOr]
 · simp [gOr]
theorem can_at {c : Kno} (hk : LtK c) (hc : CanK c) (x : Nat) : ∀ d, d ≤ c.length → ((∀ j, j < d → mem (nthF c j).1 x = false) ∧ atTo c x d = []) ∨ ∃ j, j < d ∧ mem (nthF c j).1 x = true ∧ atTo c x d = (nthF c j).2
 | 0, _ => .inl ⟨fun j h => by omega, atTo_zero _ _⟩
 | d + 1, h => by
   have hm := nthF_mem (k := c) (i := d) (by omega)
   rw [atTo_succ (by omega)]
   by_cases hx : mem (nthF c d).1 x = true
   · rw [if_pos hx]
     refine .inr ⟨d, by omega, hx, doV_same (hk _ hm).vec (hc.vec _ hm).1 ?_⟩
     rcases can_at hk hc x d (by omega) with ⟨-, h2⟩ | ⟨j, hj, h1, h2⟩
     · exact .inl h2
     · have := hc.apart _ (nthF_mem (show j < c.length by omega)) _ hm x h1 hx
       rw [h2, this]; exact .inr rfl
   · rw [if_neg hx]
     rcases can_at hk hc x d (by omega) with ⟨h1, h2⟩ | ⟨j, hj, h1, h2⟩
     · refine .inl ⟨fun j hj => ?_, h2⟩
       rcases Nat.lt_or_ge j d with h3 | h3
       · exact h1 j h3
       · rw [show j = d by omega]; simpa using hx
     · exact .inr ⟨j, by omega, h1, h2⟩
theorem can_fits {c : Kno} (hk : LtK c) (hc : CanK c) (h1 : c.length ≤ 500) (h2 : ∀ f ∈ c, f.1.length ≤ 500) (h3 : ∀ f ∈ c, VecFits f.2) : KnoFits c := by
 refine ⟨h1, h2, h3, fun x d => ?_⟩
 rw [atTo_min]
 rcases can_at hk hc x (min d c.length) (Nat.min_le_right ..) with ⟨-, h⟩ | ⟨j, hj, -, h⟩
 · rw [h]; exact ⟨by simp, fun e he => by cases he⟩
 · rw [h]
   have : min d c.length ≤ c.length := Nat.min_le_right ..
   exact h3 _ (nthF_mem (by omega))
theorem isum_refine (k : Kno) : isum (refineK k) = (piecesK k).length := by
 have : ∀ l : List Iv, isum (l.map fun s => ([s], atK k s.1)) = l.length := fun l => by
  induction l with
  | nil => rfl
  | cons s l ih => rw [List.map_cons, isum, ih, List.length_cons]; simp; omega
 exact this _
theorem canon_small {k : Kno} (hk : LtK k) (hf : KnoFits k) {m : Nat} (hi : isum k ≤ m) : (canonK k).length ≤ 1 + m * 2 ∧ isum (canonK k) ≤ 1 + m * 2 ∧ ∀ f ∈ canonK k, VecFits f.2 := by
 have hp : (piecesK k).length ≤ 1 + m * 2 := by
  have := piecesK_len k
  have := allL_len k
  omega
 have h1 := grpTo_sum (k := refineK k) (refine_raw hk) (refineK k).length
 rw [grpTo_all] at h1
 rw [isum_refine] at h1
 have h2 : (refineK k).length = (piecesK k).length := by unfold refineK; rw [List.length_map]
 refine ⟨by unfold canonK; omega, by unfold canonK; omega, fun f hf' => ?_⟩
 have h3 := grpTo_fits (k := refineK k) (fun f hf => by
  unfold refineK at hf
  obtain ⟨s, hs, rfl⟩ := List.mem_map.1 hf
  obtain ⟨c1, c2, _⟩ := atK_can hk s.1
  simp only
  rw [canonV_self c2 c1, ← atTo_all]
  exact KnoFits.at_ (by assumption) _ _) (refineK k).length
 rw [grpTo_all] at h3
 exact h3 f hf'
theorem can_joins {c : Kno} (hk : LtK c) (hc : CanK c) (hf : KnoFits c) : Joins c :=
 ⟨hf, hk, fun f h => canV_ck (hc.vec f h).1, fun f h => (hc.items f h).1⟩
theorem canon_joins {k : Kno} (hk : LtK k) (hs : SmallK k) (hi : isum k ≤ 240) : Joins (canonK k) ∧ isum (canonK k) ≤ 481 ∧ (canonK k).length ≤ 481 := by
 obtain ⟨h1, h2, h3⟩ := canon_small hk (small_fits hk hs) hi
 obtain ⟨c1, c2, -⟩ := canonK_can hk
 refine ⟨can_joins c2 c1 (can_fits c2 c1 (by omega) (fun f hf => by have := isum_mem hf; omega) h3), by omega, by omega⟩
abbrev Seg := Iv × Nat
def posS (L : List Seg) (x : Nat) : Nat := (L.takeWhile fun p => decide (p.1.1 < x)).length
def insS (L : List Seg) (s : Iv) (i : Nat) : List Seg := L.take (posS L s.1) ++ (s, i) :: L.drop (posS L s.1)
def segF (L : List Seg) (l : List Iv) (i : Nat) : List Seg := l.foldl (fun L s => insS L s i) L
def segTo (k : Kno) : Nat → List Seg
 | 0 => []
 | d + 1 => segF (segTo k d) (nthF k d).1 d
def segK (k : Kno) : List Seg := segTo k k.length
theorem segF_succ {L : List Seg} {l : List Iv} {i j : Nat} (h : j < l.length) : segF L (l.take (j + 1)) i = insS (segF L (l.take j) i) (nthI l j) i := by
 unfold segF
 rw [List.take_succ_eq_append_getElem h, List.foldl_append, nthI_get h]
 rfl
theorem insS_perm (L : List Seg) (s : Iv) (i : Nat) : (insS L s i).Perm ((s, i) :: L) := by
 unfold insS
 refine List.perm_middle.trans ?_
 rw [List.take_append_drop]
theorem insS_len (L : List Seg) (s : Iv) (i : Nat) : (insS L s i).length = L.length + 1 := by rw [(insS_perm L s i).length_eq, List.length_cons]
theorem insS_asc {L : List Seg} (h : L.Pairwise fun p q => p.1.1 ≤ q.1.1) (s : Iv) (i : Nat) : (insS L s i).Pairwise fun p q => p.1.1 ≤ q.1.1 := by
 induction L with
 | nil => simp [insS, posS]
 | cons p L ih =>
  obtain ⟨h1, h2⟩ := List.pairwise_cons.1 h
  by_cases hp : p.1.1 < s.1
  · have e : insS (p :: L) s i = p :: insS L s i := by
     unfold insS posS
     rw [List.takeWhile_cons_of_pos (by simpa using hp)]
     simp
    rw [e]
    refine List.pairwise_cons.2 ⟨fun q hq => ?_, ih h2⟩
    rcases List.mem_cons.1 ((insS_perm L s i).mem_iff.1 hq) with rfl | hq
    · exact Nat.le_of_lt hp
    · exact h1 q hq
  · have e : insS (p :: L) s i = (s, i) :: p :: L := by
     unfold insS posS
     rw [List.takeWhile_cons_of_neg (by simpa using hp)]
     simp
    rw [e]
    refine List.pairwise_cons.2 ⟨fun q hq => ?_, h⟩
    rcases List.mem_cons.1 hq with rfl | hq
    · simp only; omega
    · have := h1 q hq; simp only; omega
theorem segF_ok {L : List Seg} (h : L.Pairwise fun p q => p.1.1 ≤ q.1.1) (i : Nat) : ∀ (l : List Iv), (segF L l i).Pairwise (fun p q => p.1.1 ≤ q.1.1) ∧ (segF L l i).Perm (L ++ l.map fun s => (s, i)) := by
 intro l
 induction l generalizing L with
 | nil => exact ⟨h, by simp [segF]⟩
 | cons s l ih =>
  have e : segF L (s :: l) i = segF (insS L s i) l i := rfl
  rw [e]
  obtain ⟨h1, h2⟩ := ih (insS_asc h s i)
  refine ⟨h1, h2.trans ?_⟩
  rw [List.map_cons]
  exact ((insS_perm L s i).append_right _).trans List.perm_middle.symm
theorem segTo_ok (k : Kno) : ∀ d, d ≤ k.length → (segTo k d).Pairwise (fun p q => p.1.1 ≤ q.1.1) ∧ ((segTo k d).map (·.1)).Perm (flatK (k.take d)) ∧ ∀ p ∈ segTo k d, p.2 < d ∧ p.1 ∈ (nthF k p.2).1
 | 0, _ => ⟨List.Pairwise.nil, by simp [segTo, flatK], fun p h => by cases h⟩
 | d + 1, h => by
   obtain ⟨h1, h2, h3⟩ := segTo_ok k d (by omega)
   obtain ⟨g1, g2⟩ := segF_ok h1 d (nthF k d).1
   refine ⟨g1, ?_, fun p hp => ?_⟩
   · rw [flatK_succ (by omega)]
     refine (g2.map _).trans ?_
     rw [List.map_append, List.map_map]
     refine (h2.append_right _).trans ?_
     simp [Function.comp_def]
   · rcases List.mem_append.1 (g2.mem_iff.1 hp) with h | h
     · have := h3 p h; exact ⟨by omega, this.2⟩
     · obtain ⟨s, hs, rfl⟩ := List.mem_map.1 h
       exact ⟨Nat.lt_succ_self _, hs⟩
theorem sorted_unique {α : Type} {f : α → Nat} : ∀ {l m : List α}, l.Perm m → l.Pairwise (fun a b => f a ≤ f b) → m.Pairwise (fun a b => f a ≤ f b) → (∀ a ∈ l, ∀ b ∈ l, f a = f b → a = b) → l = m
 | [], m, hp, _, _, _ => hp.nil_eq
 | a :: l, [], hp, _, _, _ => by have := hp.length_eq; simp at this
 | a :: l, b :: m, hp, hl, hm, hu => by
   obtain ⟨l1, l2⟩ := List.pairwise_cons.1 hl
   obtain ⟨m1, m2⟩ := List.pairwise_cons.1 hm
   have ha : a ∈ b :: m := hp.mem_iff.1 List.mem_cons_self
   have hb : b ∈ a :: l := hp.mem_iff.2 List.mem_cons_self
   have e : a = b := by
    refine hu a List.mem_cons_self b hb (Nat.le_antisymm ?_ ?_)
    · rcases List.mem_cons.1 hb with rfl | h
      · exact Nat.le_refl _
      · exact l1 b h
    · rcases List.mem_cons.1 ha with rfl | h
      · exact Nat.le_refl _
      · exact m1 a h
   subst e
   rw [sorted_unique hp.cons_inv l2 m2 (fun x hx y hy => hu x (List.mem_cons_of_mem _ hx) y (List.mem_cons_of_mem _ hy))]
theorem asc_pw_lo {l : List Iv} (h : AscLo l) : l.Pairwise fun s t => s.1 ≤ t.1 := by
 rw [List.pairwise_iff_getElem]
 intro i j hi hj hij
 have := h i j hij hj
 rwa [nthI_get hi, nthI_get hj] at this
theorem pos_at {k : Kno} (hc : CanK k) {i : Nat} (hi : i < k.length) {s : Iv} (hs : s ∈ (nthF k i).1) : posK k s.1 = i := by
 have hmi := nthF_mem hi
 have hx := (good_start (hc.items _ hmi).1 hs).1
 unfold posK
 have : firstS (fun i => if mem (nthF k i).1 s.1 = true then some i else none) k.length = some i := by
  refine firstS_some hi (fun j hj => if_neg fun hm => ?_) (if_pos hx)
  have hmj := nthF_mem (k := k) (i := j) (by omega)
  have e := hc.apart _ hmi _ hmj s.1 hx hm
  have hl := List.pairwise_iff_getElem.1 hc.asc j i (by omega) hi hj
  rw [← nthF_get (by omega), ← nthF_get hi, e] at hl
  unfold VecLt at hl
  rw [cmpV_self] at hl
  cases hl
 rw [this]; rfl
theorem start_inj {l : List Iv} (h : Good l) {s t : Iv} (hs : s ∈ l) (ht : t ∈ l) (e : s.1 = t.1) : s = t := by
 obtain ⟨i, hi, rfl⟩ := List.getElem_of_mem hs
 obtain ⟨j, hj, rfl⟩ := List.getElem_of_mem ht
 rw [← nthI_get hi, ← nthI_get hj] at *
 have hi2 := (good_idx h i hi).1
 have hj2 := (good_idx h j hj).1
 rcases Nat.lt_trichotomy i j with h2 | h2 | h2
 · have := good_mono h h2 hj; omega
 · rw [h2]
 · have := good_mono h h2 hi; omega
theorem seg_same {k : Kno} (hc : CanK k) {l : List Iv} (hp : l.Perm (flatK k)) (ha : AscLo l) : l = (segK k).map (·.1) ∧ (l.map fun s => posK k s.1) = (segK k).map (·.2) := by
 obtain ⟨h1, h2, h3⟩ := segTo_ok k k.length (Nat.le_refl _)
 rw [List.take_length] at h2
 have e : l = (segK k).map (·.1) := by
  refine sorted_unique (f := (·.1)) (hp.trans h2.symm) (asc_pw_lo ha) (List.pairwise_map.2 h1) fun s hs t ht e => ?_
  obtain ⟨f, hf, hsf⟩ := flatK_mem.1 (hp.mem_iff.1 hs)
  obtain ⟨g, hg, htg⟩ := flatK_mem.1 (hp.mem_iff.1 ht)
  have x1 := (good_start (hc.items f hf).1 hsf).1
  have x2 := (good_start (hc.items g hg).1 htg).1
  rw [← e] at x2
  have e2 := hc.apart f hf g hg s.1 x1 x2
  subst e2
  exact start_inj (hc.items f hf).1 hsf htg e
 refine ⟨e, ?_⟩
 rw [e, List.map_map]
 refine List.map_congr_left fun p hp' => ?_
 obtain ⟨g1, g2⟩ := h3 p hp'
 exact pos_at hc g1 g2
def nthZ (l : List Int) (k : Nat) : Int := l.getD k 0
theorem nthZ_get {l : List Int} {k : Nat} (h : k < l.length) : nthZ l k = l[k] := by simp [nthZ, h]
def nthV (l : List Vec) (k : Nat) : Vec := l.getD k []
theorem idx_inj {k : Kno} (hc : CanK k) {i j : Nat} (hi : i < k.length) (hj : j < k.length) (e : nthF k i = nthF k j) : i = j := by
 have one : ∀ {i j : Nat}, i < j → j < k.length → nthF k i = nthF k j → False := fun {i j} hij hj e => by
  have hl := List.pairwise_iff_getElem.1 hc.asc i j (by omega) hj hij
  rw [← nthF_get (by omega), ← nthF_get hj, e] at hl
  unfold VecLt at hl
  rw [cmpV_self] at hl
  cases hl
 rcases Nat.lt_trichotomy i j with h | h | h
 · exact (one h hj e).elim
 · exact h
 · exact (one h hi e.symm).elim
def ApartS (p q : Seg) : Prop := (p.1.2 < q.1.1 ∧ (p.2 = q.2 → p.1.2 + 1 < q.1.1)) ∨ (q.1.2 < p.1.1 ∧ (p.2 = q.2 → q.1.2 + 1 < p.1.1))
theorem apartS_symm {p q : Seg} (h : ApartS p q) : ApartS q p := by
 rcases h with ⟨h1, h2⟩ | ⟨h1, h2⟩
 · exact .inr ⟨h1, fun e => h2 e.symm⟩
 · exact .inl ⟨h1, fun e => h2 e.symm⟩
theorem good_pw {l : List Iv} (h : Good l) : l.Pairwise fun s t => s.2 + 1 < t.1 := by
 rw [List.pairwise_iff_getElem]
 intro i j hi hj hij
 have := good_mono h hij hj
 rwa [nthI_get hi, nthI_get hj] at this
theorem disj_of {k : Kno} (hc : CanK k) {i j : Nat} (hi : i < k.length) (hj : j < k.length) (hij : i ≠ j) {s t : Iv} (hs : s ∈ (nthF k i).1) (ht : t ∈ (nthF k j).1) : s.2 < t.1 ∨ t.2 < s.1 := by
 have h1 := (hc.items _ (nthF_mem hi)).1.ok s hs
 have h2 := (hc.items _ (nthF_mem hj)).1.ok t ht
 rcases Nat.lt_or_ge s.2 t.1 with h | h
 · exact .inl h
 rcases Nat.lt_or_ge t.2 s.1 with h' | h'
 · exact .inr h'
 exfalso
 refine hij (idx_inj hc hi hj (hc.apart _ (nthF_mem hi) _ (nthF_mem hj) (max s.1 t.1) (mem_iff.2 ⟨s, hs, ?_, ?_⟩) (mem_iff.2 ⟨t, ht, ?_, ?_⟩))) <;> omega
theorem segTo_apart {k : Kno} (hc : CanK k) : ∀ d, d ≤ k.length → (segTo k d).Pairwise ApartS
 | 0, _ => List.Pairwise.nil
 | d + 1, h => by
   obtain ⟨h1, h2, h3⟩ := segTo_ok k d (by omega)
   obtain ⟨-, g2⟩ := segF_ok h1 d (nthF k d).1
   have e : segTo k (d + 1) = segF (segTo k d) (nthF k d).1 d := rfl
   rw [e]
   refine (List.Perm.pairwise_iff (fun {x y} h => apartS_symm h) g2).2 (List.pairwise_append.2 ⟨segTo_apart hc d (by omega), ?_, fun p hp q hq => ?_⟩)
   · refine List.pairwise_map.2 ((good_pw (hc.items _ (nthF_mem h)).1).imp fun {s t} hst => .inl ⟨?_, fun _ => hst⟩)
     simp only; omega
   · obtain ⟨t, ht, rfl⟩ := List.mem_map.1 hq
     obtain ⟨p1, p2⟩ := h3 p hp
     have hne : p.2 ≠ d := by omega
     rcases disj_of hc (by omega : p.2 < k.length) h hne p2 ht with hh | hh
     · exact .inl ⟨hh, fun e => absurd e hne⟩
     · exact .inr ⟨hh, fun e => absurd e hne⟩
theorem seg_next {k : Kno} (hc : CanK k) : (segK k).Pairwise fun p q => p.1.2 < q.1.1 ∧ (p.2 = q.2 → p.1.2 + 1 < q.1.1) := by
 obtain ⟨h1, h2, h3⟩ := segTo_ok k k.length (Nat.le_refl _)
 have h4 := segTo_apart hc k.length (Nat.le_refl _)
 have ok : ∀ p ∈ segK k, p.1.1 ≤ p.1.2 := fun p hp => (hc.items _ (nthF_mem (h3 p hp).1)).1.ok _ (h3 p hp).2
 rw [List.pairwise_iff_getElem] at h1 h4 ⊢
 intro i j hi hj hij
 have e1 := h1 i j hi hj hij
 have o1 := ok _ (List.getElem_mem hi)
 have o2 := ok _ (List.getElem_mem hj)
 unfold segK at o1 o2 ⊢
 rcases h4 i j hi hj hij with h | h
 · exact h
 · exact absurd h.1 (by omega)
def segL (k : Kno) : List Iv := (segK k).map (·.1)
theorem segL_len (k : Kno) : (segL k).length = (segK k).length := by simp [segL]
theorem segL_at {k : Kno} {i : Nat} (h : i < (segK k).length) : nthI (segL k) i = (segK k)[i].1 := by rw [nthI_get (by rw [segL_len]; exact h)]; simp [segL]
end
section
open Go.RowKit
def segI (L : List Seg) : List Iv := L.map (·.1)
def segX (L : List Seg) : List Nat := L.map (·.2)
theorem segI_ins (L : List Seg) (s : Iv) (i : Nat) : segI (insS L s i) = (segI L).take (posS L s.1) ++ [s] ++ (segI L).drop (posS L s.1) := by simp [segI, insS, List.map_take, List.map_drop]
theorem segX_ins (L : List Seg) (s : Iv) (i : Nat) : segX (insS L s i) = (segX L).take (posS L s.1) ++ [i] ++ (segX L).drop (posS L s.1) := by simp [segX, insS, List.map_take, List.map_drop]
theorem posS_at {L : List Seg} {x j : Nat} (h1 : ∀ i, i < j → (nthI (segI L) i).1 < x) (hj : j ≤ L.length) (h2 : j < L.length → ¬ (nthI (segI L) j).1 < x) : j = posS L x := by
 induction L generalizing j with
 | nil => simp at hj; subst hj; rfl
 | cons p L ih =>
  unfold posS
  cases j with
  | zero =>
   have := h2 (by simp)
   have e : (nthI (segI (p :: L)) 0).1 = p.1.1 := rfl
   rw [e] at this
   rw [List.takeWhile_cons_of_neg (by simpa using this)]
   rfl
  | succ j =>
   have := h1 0 (by omega)
   have e : (nthI (segI (p :: L)) 0).1 = p.1.1 := rfl
   rw [e] at this
   rw [List.takeWhile_cons_of_pos (by simpa using this), List.length_cons]
   have e2 : ∀ i, nthI (segI (p :: L)) (i + 1) = nthI (segI L) i := fun i => rfl
   have := ih (j := j) (fun i hi => by have := h1 (i + 1) (by omega); rwa [e2] at this) (by simpa using hj) (fun hl => by have := h2 (by simpa using hl); rwa [e2] at this)
   unfold posS at this
   omega
theorem step_append_i64 {w : World} {ops : Array Oper} {o : Oper} {a : Act} {K : Act → World → Prop} {Q : Exit → Act → World → Prop} {E : Prop} (hgd : o.guard = none) (s x : Operand)
 (ho : o.op = .call { callee := .builtin .append, args := #[s, x], argTypes := #[29, 29] }) (hty : o.type = 29)
 (base : Nat) (v : Value) (n : Nat) (xs : List Nat) (hs : a.eval s = v) (hown : w.ownsRow base 3 1 v n (i64C xs)) (A : Option Addr) (m c : Nat) (l : List Nat) (hx : a.eval x = .slice A m c) (hr : Rd w 1 A m (i64C l)) (hb : n + m ≤ 1000000) (hbase : base ≤ w.heap.size)
 (h : ∀ v' w', w'.ownsRow base 3 1 v' (n + m) (i64C (xs ++ l)) → w.grownBy w' v.ownBlock → K (a.put o.dst v') w') :
 if Region.wanted o (yielded ops a.tmps) = true then Oper.wp Tryz.prog o a w K Q else E := by
 obtain ⟨v', w', hrun, h1, h2⟩ := run_append_i64 base v n xs hown A m c l hr hb hbase
 exact step_append_hr hgd s x _ ho _ _ hs hx v' w' (by rw [hty]; exact hrun) (h v' w' h1 h2)
structure Own2 (w : World) (base : Nat) (L : List Seg) (v u : Value) : Prop where
 ivs : w.ownsRow base 73 2 v L.length (ivC (segI L))
 idx : w.ownsRow base 3 1 u L.length (i64C (segX L))
 nil : L = [] → v = .slice none 0 0 ∧ u = .slice none 0 0
theorem Own2.below {w w' : World} {base : Nat} {L : List Seg} {v u : Value} (h : Own2 w base L v u) (hb : Below w.heap.size w w') : Own2 w' base L v u := ⟨own_below h.ivs hb, own_below h.idx hb, h.nil⟩
theorem own2_nil (w : World) (base : Nat) : Own2 w base [] (.slice none 0 0) (.slice none 0 0) := ⟨World.ownsRow_nil _ _ _ _, World.ownsRow_nil _ _ _ _, fun _ => ⟨rfl, rfl⟩⟩
theorem segF_len (L : List Seg) (l : List Iv) (i : Nat) : (segF L l i).length = L.length + l.length := by
 induction l generalizing L with
 | nil => rfl
 | cons s l ih =>
  have e : segF L (s :: l) i = segF (insS L s i) l i := rfl
  rw [e, ih, insS_len, List.length_cons]; omega
theorem segTo_len (k : Kno) : ∀ d, d ≤ k.length → (segTo k d).length = isum (k.take d)
 | 0, _ => rfl
 | d + 1, h => by
   rw [segTo, segF_len, segTo_len k d (by omega), List.take_succ_eq_append_getElem (by omega), isum_app, nthF_get (by omega)]
   simp [isum]
theorem own_form {w : World} {base sz n : Nat} {T : TypeId} {v : Value} {xs : List Value} (h : w.ownsRow base T sz v n xs) (hn : 0 < n) : ∃ g cap, v = .slice (some ⟨g, 0, none⟩) n cap ∧ base ≤ g ∧ g < w.heap.size ∧ n ≤ cap ∧ cap ≤ maxLen := by
 rcases h.2 with ⟨_, h0⟩ | ⟨g, cap, cur, hv, hg, hh, hnc, hcm, _⟩
 · omega
 · exact ⟨g, cap, hv, hg, (Array.getElem?_eq_some_iff.1 hh).1, hnc, hcm⟩
theorem i64C_take (l : List Nat) (k : Nat) : (i64C l).take k = i64C (l.take k) := by simp [i64C, List.map_take]
theorem i64C_drop (l : List Nat) (k : Nat) : (i64C l).drop k = i64C (l.drop k) := by simp [i64C, List.map_drop]
theorem ivC_take : ∀ (l : List Iv) (k : Nat), (ivC l).take (k * 2) = ivC (l.take k)
 | [], k => by simp [ivC]
 | s :: l, 0 => by simp [ivC]
 | s :: l, k + 1 => by
   have e1 : ivC (s :: l) = [.int .u64 ((s.1 : Nat) : Int), .int .u64 ((s.2 : Nat) : Int)] ++ ivC l := rfl
   rw [e1, show (k + 1) * 2 = k * 2 + 1 + 1 by omega, List.cons_append, List.cons_append, List.nil_append, List.take_succ_cons, List.take_succ_cons, ivC_take l k]
   rfl
theorem ivC_drop : ∀ (l : List Iv) (k : Nat), (ivC l).drop (k * 2) = ivC (l.drop k)
 | [], k => by simp [ivC]
 | s :: l, 0 => by simp
 | s :: l, k + 1 => by
   have e1 : ivC (s :: l) = [.int .u64 ((s.1 : Nat) : Int), .int .u64 ((s.2 : Nat) : Int)] ++ ivC l := rfl
   rw [e1, show (k + 1) * 2 = k * 2 + 1 + 1 by omega, List.cons_append, List.cons_append, List.nil_append, List.drop_succ_cons, List.drop_succ_cons, ivC_drop l k]
   rfl
theorem segF_mem {L : List Seg} (h : L.Pairwise fun p q => p.1.1 ≤ q.1.1) {l : List Iv} {i : Nat} {s : Iv} (hs : s ∈ segI (segF L l i)) : s ∈ segI L ∨ s ∈ l := by
 obtain ⟨p, hp, rfl⟩ := List.mem_map.1 hs
 rcases List.mem_append.1 ((segF_ok h i l).2.mem_iff.1 hp) with h | h
 · exact .inl (List.mem_map.2 ⟨p, h, rfl⟩)
 · obtain ⟨t, ht, rfl⟩ := List.mem_map.1 h
   exact .inr ht
end
end Go.Proofs.YtkkdlgcfcbaibaaGreatDoor
