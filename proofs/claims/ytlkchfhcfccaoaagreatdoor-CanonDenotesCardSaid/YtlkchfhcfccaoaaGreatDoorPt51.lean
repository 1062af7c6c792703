/-
  Walk: CanonOrder.
-/
import Derived.Deep.Slices
import Derived.Test.YtlkchfhcfccaoaaGreatDoorPt50
namespace Go.Proofs.YtlkchfhcfccaoaaGreatDoor
open Go.RowKit
set_option linter.unusedVariables false

theorem frags_parts {w : World} {a : Option Addr} {n cap : Nat} {k : Kno} (h : Frags w a n cap k) : ∃ ts, PartsT w w.heap.size k ts ∧ Rd w 2 a n (frgC ts) := by
  have hl := h.len
  rcases Nat.eq_zero_or_pos n with h0 | hn
  · subst h0
    have : k = [] := List.length_eq_zero_iff.1 hl
    subst this
    exact ⟨[], partsT_nil _ _, rfl, fun h => by omega⟩
  · obtain ⟨b, o, rfl, hc⟩ := h.cells hn
    have each : ∀ i, i < n → ∃ q : Value × Value, w.cell? ⟨b, o + i * 2, none⟩ = some q.1 ∧ w.cell? ⟨b, o + i * 2 + 1, none⟩ = some q.2 ∧ IvSl w w.heap.size q.1 (nthF k i).1 ∧ EnSl w w.heap.size q.2 (nthF k i).2 := fun i hi => by
      obtain ⟨⟨x, m, c, h1, h2⟩, ⟨y, m', c', h3, h4⟩⟩ := hc i hi
      exact ⟨(.slice x m c, .slice y m' c'), h1, h3, ⟨_, _, _, rfl, ivsT_old h2⟩, ⟨_, _, _, rfl, entsT_old h4⟩⟩
    obtain ⟨f, hf⟩ := Deep.choose_lt each
    have hget : ∀ i, i < n → ((List.range n).map f)[i]? = some (f i) := fun i hi => by simp [hi]
    refine ⟨(List.range n).map f, ⟨by simp [hl], fun i hi => ⟨f i, hget i (by omega), (hf i (by omega)).2.2⟩⟩, by rw [frgC_length]; simp, fun _ => ⟨b, o, rfl, fun j u hu => ?_⟩⟩
    have hj : j < n * 2 := by
      have := (List.getElem?_eq_some_iff.1 hu).1
      rw [frgC_length] at this
      simpa using this
    have hq : j / 2 < n := by omega
    obtain ⟨e1, e2⟩ := frgC_get (hget _ hq)
    obtain ⟨g1, g2, -⟩ := hf _ hq
    rcases (by omega : j = j / 2 * 2 ∨ j = j / 2 * 2 + 1) with h | h
    · rw [h] at hu ⊢
      rw [e1] at hu
      cases hu
      exact g1
    · rw [h] at hu ⊢
      rw [e2] at hu
      cases hu
      rw [← Nat.add_assoc]
      exact g2

theorem rd_take {w : World} {sz n : Nat} {A : Option Addr} {xs : List Value} (h : Rd w sz A n xs) {p : Nat} (hp : p ≤ n) : Rd w sz A p (xs.take (p * sz)) := by
  refine ⟨by rw [List.length_take, h.1]; exact Nat.min_eq_left (Nat.mul_le_mul_right _ hp), fun h0 => ?_⟩
  obtain ⟨b, o, e, hc⟩ := h.2 (by omega)
  refine ⟨b, o, e, fun j u hu => hc j u ?_⟩
  rw [List.getElem?_take] at hu
  split at hu
  · exact hu
  · cases hu

theorem rd_drop {w : World} {sz n b o : Nat} {xs : List Value} (h : Rd w sz (some ⟨b, o, none⟩) n xs) {p : Nat} (hp : p ≤ n) : Rd w sz (some ⟨b, o + p * sz, none⟩) (n - p) (xs.drop (p * sz)) := by
  refine ⟨by rw [List.length_drop, h.1, Nat.sub_mul], fun h0 => ⟨b, o + p * sz, rfl, fun j u hu => ?_⟩⟩
  obtain ⟨b', o', e, hc⟩ := h.2 (by omega)
  cases e
  rw [List.getElem?_drop] at hu
  have := hc _ u hu
  rwa [← Nat.add_assoc] at this

theorem ivSl_nil (w : World) (base : Nat) : IvSl w base (.slice none 0 0) [] := ⟨none, 0, 0, rfl, ivs_nil _, fun h => by omega⟩
theorem enSl_nil (w : World) (base : Nat) : EnSl w base (.slice none 0 0) [] := ⟨none, 0, 0, rfl, rfl, (fun e he => by cases he), Nat.le_refl _, by omega, fun _ => rfl, (fun h => by omega), fun h => by omega⟩
theorem partsT_three {w : World} {base : Nat} {f g h : Frg} {a b c d e i : Value} (h1 : IvSl w base a f.1) (h2 : EnSl w base b f.2) (h3 : IvSl w base c g.1) (h4 : EnSl w base d g.2) (h5 : IvSl w base e h.1) (h6 : EnSl w base i h.2) : PartsT w base [f, g, h] [(a, b), (c, d), (e, i)] :=
  ((partsT_one h1 h2).append (partsT_one h3 h4)).append (partsT_one h5 h6)

/-- The fragments turned, some repeated, some emptied. -/
def turnK (k : Kno) (p : Nat) : Kno := (k.drop p ++ k.take p) ++ [nthF k p, ([], (nthF k p).2), ((nthF k 0).1, [])]

theorem turn_mem {k : Kno} {p : Nat} (hp : p < k.length) {f : Frg} : f ∈ turnK k p ↔ f ∈ k ∨ f = ([], (nthF k p).2) ∨ f = ((nthF k 0).1, []) := by
  have h1 : f ∈ k ↔ f ∈ k.drop p ∨ f ∈ k.take p := by
    conv => lhs; rw [← List.take_append_drop p k]
    rw [List.mem_append, or_comm]
  unfold turnK
  simp only [List.mem_append, List.mem_cons, List.not_mem_nil, or_false]
  rw [← h1]
  constructor
  · rintro (h | rfl | h | h)
    · exact .inl h
    · exact .inl (nthF_mem hp)
    · exact .inr (.inl h)
    · exact .inr (.inr h)
  · rintro (h | h | h)
    · exact .inl h
    · exact .inr (.inr (.inl h))
    · exact .inr (.inr (.inr h))

theorem turn_len {k : Kno} {p : Nat} (hp : p < k.length) : (turnK k p).length = k.length + 3 := by unfold turnK; simp; omega

theorem turn_ok {k : Kno} {p : Nat} (hp : p < k.length) (hk : LtK k) (hs : SmallK k) (h6 : k.length ≤ 6) (hc : ckF k = none) : LtK (turnK k p) ∧ SmallK (turnK k p) ∧ ckF (turnK k p) = none ∧ canonK (turnK k p) = canonK k ∧ isum (turnK k p) ≤ 300 := by
  have hm := nthF_mem hp
  have h0 := nthF_mem (k := k) (i := 0) (by omega)
  have hlt : LtK (turnK k p) := fun f hf => by
    rcases (turn_mem hp).1 hf with h | rfl | rfl
    · exact hk f h
    · exact ⟨(fun s hs => by cases hs), (hk _ hm).vec, (hk _ hm).asc⟩
    · exact ⟨(hk _ h0).items, (fun e he => by cases he), List.Pairwise.nil⟩
  have hsm : SmallK (turnK k p) := by
    refine ⟨by rw [turn_len hp]; omega, fun f hf => ?_, fun f hf => ?_, fun f hf e he => ?_⟩
    · rcases (turn_mem hp).1 hf with h | rfl | rfl
      · exact hs.items f h
      · simp
      · exact hs.items (nthF k 0) h0
    · rcases (turn_mem hp).1 hf with h | rfl | rfl
      · exact hs.vec f h
      · exact hs.vec (nthF k p) hm
      · simp
    · rcases (turn_mem hp).1 hf with h | rfl | rfl
      · exact hs.holes f h e he
      · exact hs.holes _ hm e he
      · cases he
  refine ⟨hlt, hsm, ckF_none.2 fun f hf => ?_, canonK_ext hlt hk fun x r c => ?_, ?_⟩
  · rcases (turn_mem hp).1 hf with h | rfl | rfl
    · exact ckF_none.1 hc f h
    · exact ⟨trivial, (ckF_none.1 hc _ hm).2⟩
    · exact ⟨(ckF_none.1 hc _ h0).1, ckV_none.2 ⟨List.Pairwise.nil, fun e he => by cases he⟩⟩
  · rw [Bool.eq_iff_iff, knownK_iff, knownK_iff]
    constructor
    · rintro ⟨f, hf, h1, h2⟩
      rcases (turn_mem hp).1 hf with h | rfl | rfl
      · exact ⟨f, h, h1, h2⟩
      · rw [mem_nil] at h1; cases h1
      · exact absurd rfl (known_ne h2)
    · rintro ⟨f, hf, h1, h2⟩
      exact ⟨f, (turn_mem hp).2 (.inl hf), h1, h2⟩
  · have := isum_le (m := 20) (k := turnK k p) hsm.items
    rw [turn_len hp] at this
    omega

set_option maxRecDepth 20000 in
set_option maxHeartbeats 4000000 in
theorem walkCanonOrder (a : Option Addr) (n cap t : Nat) (k : Kno) (w : World) (hE : Frags w a n cap k) (hR : Ready w) (ht : t < 256) :
    Calls Tryz.prog 4 #[.slice a n cap, .int .u8 t] w fun e w' => e = .returned (.bool true) ∧ Below w.heap.size w w' := by
  have HR := Lib.hid (fun W (h : Below w.heap.size w W) => hR.below h)
  have HE := Lib.hid (fun W (h : Below w.heap.size w W) => hE.below h)
  have hRt := right_any a n cap k w hE
  have hall := hE.all
  have hlen := hE.len
  have hm : n ≤ 9223372036854775807 := Nat.le_trans hE.room hE.most
  clear hR hE
  cases hf : (fewK k && decide (ckF k = none)) with
  | false =>
    rw [hf] at hRt
    have HF := Lib.hid hRt
    clear hRt hf hall hlen
    go_enter Tryz.func4, Tryz.ntmps4
    go_wp2_with fail
    refine HF.out.mono ?_
    rintro e w0 ⟨rfl, hb0⟩
    have Hb0 := Lib.hid hb0; clear hb0
    go_wp2_with fail
    refine (alive_any _ (HR.out _ Hb0.out)).mono ?_
    rintro e w1 ⟨rfl, hb1⟩
    have Hb1 := Lib.hid (Hb0.out.trans (hb1.mono Hb0.out.size)); clear hb1
    go_wp2_with fail
    go_ret
    exact ⟨rfl, Hb1.out⟩
  | true =>
    rw [hf] at hRt
    have HF := Lib.hid hRt
    by_cases h6 : n = 0 ∨ 6 < n
    · by_cases h0 : n = 0
      · have hz : ((n : Int) == 0) = true := by rw [h0]; rfl
        clear hRt hf hall hlen h6 h0
        go_enter Tryz.func4, Tryz.ntmps4
        go_wp2_with fail
        refine HF.out.mono ?_
        rintro e w0 ⟨rfl, hb0⟩
        have Hb0 := Lib.hid hb0; clear hb0
        go_wp2_with fail
        refine (alive_any _ (HR.out _ Hb0.out)).mono ?_
        rintro e w1 ⟨rfl, hb1⟩
        have Hb1 := Lib.hid (Hb0.out.trans (hb1.mono Hb0.out.size)); clear hb1
        go_wp2_with fail
        go_ret
        exact ⟨rfl, Hb1.out⟩
      · have hz : ((n : Int) == 0) = false := by rw [beq_eq_false_iff_ne]; omega
        have h6n : 6 < n := by omega
        clear hRt hf hall hlen h6 h0
        go_enter Tryz.func4, Tryz.ntmps4
        go_wp2_with fail
        refine HF.out.mono ?_
        rintro e w0 ⟨rfl, hb0⟩
        have Hb0 := Lib.hid hb0; clear hb0
        go_wp2_with fail
        refine (alive_any _ (HR.out _ Hb0.out)).mono ?_
        rintro e w1 ⟨rfl, hb1⟩
        have Hb1 := Lib.hid (Hb0.out.trans (hb1.mono Hb0.out.size)); clear hb1
        go_wp2_with fail
        go_ret
        exact ⟨rfl, Hb1.out⟩
    · have hz : ((n : Int) == 0) = false := by rw [beq_eq_false_iff_ne]; omega
      have h6n : ¬ 6 < n := by omega
      have h0n : n ≠ 0 := by omega
      rw [Bool.and_eq_true, decide_eq_true_eq] at hf
      obtain ⟨hs, h12, h240⟩ := fewK_small hf.1
      have hk := ltK_of hall hf.2
      clear hRt h6
      go_enter Tryz.func4, Tryz.ntmps4
      go_wp2_with fail
      refine HF.out.mono ?_
      rintro e w1 ⟨rfl, hb1⟩
      have Hb1 := Lib.hid hb1; clear hb1
      go_wp2_with fail
      obtain ⟨p, hp⟩ : ∃ p, p = t % n := ⟨_, rfl⟩
      rw [show ((t : Int) % (n : Int)) = (p : Int) from by rw [hp]; exact (Int.natCast_emod t n).symm]
      have hpn : p < n := by rw [hp]; exact Nat.mod_lt _ (by omega)
      have hpk : p < k.length := by rw [hlen]; exact hpn
      obtain ⟨T1, T2, T3, T4, T5⟩ := turn_ok hpk hk hs (by rw [hlen]; omega) hf.2
      have HC := Lib.hid (fun W (h : Below w.heap.size w W) => canCanon_any a n cap k W (HE.out W h) (small_joins hk hs hf.2) (Nat.le_trans (startsK_le _) (by omega)))
      have HCt := Lib.hid (fun W a' c' (h : Frags W a' (turnK k p).length c' (turnK k p)) => canCanon_any a' _ c' (turnK k p) W h (small_joins T1 T2 T3) (Nat.le_trans (startsK_le _) (by omega)))
      rw [T4] at HCt
      have HEw := HE.out _ Hb1.out
      obtain ⟨bb, oo, rfl⟩ := HEw.some (by omega)
      obtain ⟨ts, htp, hrd⟩ := frags_parts HEw
      have hpc : ¬ cap = p := by have := HEw.room; omega
      have hpc1 : p ≤ cap := by have := HEw.room; omega
      have hpn1 : p ≤ n := Nat.le_of_lt hpn
      have HEf := Lib.hid HEw
      have hncap : n ≤ cap := HEw.room
      have hts := htp.1
      have Hhd := Lib.hid (show ∀ w', Below w1.heap.size w1 w' → Rd w' 2 (some ⟨bb, oo, none⟩) p (frgC (ts.take p)) from fun w' h => by
        have := (rd_take hrd (Nat.le_of_lt hpn)).below h
        rwa [frgC_take] at this)
      have Htl := Lib.hid (show ∀ w', Below w1.heap.size w1 w' → Rd w' 2 (some ⟨bb, oo + p * 2, none⟩) (n - p) (frgC (ts.drop p)) from fun w' h => by
        have := (rd_drop hrd (Nat.le_of_lt hpn)).below h
        rwa [frgC_drop] at this)
      have HPT := Lib.hid (show ∀ w', Below w1.heap.size w1 w' → PartsT w' w1.heap.size (k.take p) (ts.take p) from fun w' h => (htp.steady (P := fun _ => True) (.of_below h) trivial trivial).take _)
      have HPD := Lib.hid (show ∀ w', Below w1.heap.size w1 w' → PartsT w' w1.heap.size (k.drop p) (ts.drop p) from fun w' h => (htp.steady (P := fun _ => True) (.of_below h) trivial trivial).drop _)
      have Hkl := Lib.hid hlen
      clear hf hs h12 h240 hk T1 T2 T3 T4 T5 hall htp hrd hts hp hlen HEw ht
      go_region_held3 (fun w' => Below w1.heap.size w1 w') (first | assumption | exact Below.refl _ _ | exact (Below.refl _ _).drew | exact Below.alloc (by assumption) (Below.size (by assumption)) _) (first
        | (refine step_append_frg rfl (.tmp 26) (.tmp 29) rfl rfl w1.heap.size w1.heap.size _ [] rfl (ownK_empty (by first | exact heap_at_new _ _ _ (by simp) | exact heap_at_old _ _ _ _ (heap_at_new _ _ _ (by simp))) (by simp <;> omega)) _ _ (n - p) (k.drop p) (by rw [List.length_drop, Hkl.out]) (ts.drop p) (HPD.out _ (by assumption)) rfl (Htl.out _ (by assumption)) (by have := Hkl.out; simp <;> omega) (by simp <;> omega) (Nat.le_refl _) ?_
           intro v1 w5 ho1 hg1 _
           have hS1 : Below w1.heap.size w1 w5 := by
             refine Below.grown (B := w1.heap.size) (by assumption) hg1 (by simp <;> omega) ?_
             intro j hj
             simp [Value.ownBlock, Act.eval] at hj
             omega)
        | (refine step_append_frg rfl (.tmp 30) (.tmp 33) rfl rfl w1.heap.size w1.heap.size _ _ rfl ho1 _ _ p (k.take p) (by rw [List.length_take, Hkl.out]; omega) (ts.take p) (HPT.out _ (by assumption)) rfl (Hhd.out _ (by assumption)) (by have := Hkl.out; simp <;> omega) (by have := hS1.size; simp <;> omega) (Nat.le_refl _) ?_
           intro v2 w6 ho2 hg2 _
           have hS2 : Below w1.heap.size w1 w6 := by
             refine Below.grown (B := w1.heap.size) (by assumption) hg2 ?_ (fun j hj => (ho1.lt j hj).1)
             have := hS1.size
             simp <;> omega))
      obtain ⟨x, m, c, y, m', c', hq⟩ := HEf.out.fix hpn
      obtain ⟨x0, m0, c0, y0, m0', c0', hq0⟩ := HEf.out.fix (i := 0) (by omega)
      have HI := Lib.hid (show ∀ w', Below w1.heap.size w1 w' → IvSl w' w1.heap.size (.slice x m c) (nthF k p).1 ∧ EnSl w' w1.heap.size (.slice y m' c') (nthF k p).2 ∧ IvSl w' w1.heap.size (.slice x0 m0 c0) (nthF k 0).1 from fun w' h => by
        have h1 := hq w1 (Below.refl _ _)
        have h2 := hq0 w1 (Below.refl _ _)
        exact ⟨⟨_, _, _, rfl, (ivsT_old h1.2.1).steady (P := fun _ => True) (.of_below h) trivial⟩, ⟨_, _, _, rfl, (entsT_old h1.2.2.2).steady (P := fun _ => True) (.of_below h) trivial trivial⟩, ⟨_, _, _, rfl, (ivsT_old h2.2.1).steady (P := fun _ => True) (.of_below h) trivial⟩⟩)
      have r0 : ∀ w', Below w1.heap.size w1 w' → w'.cell? ⟨bb, oo + p * 2, none⟩ = some (.slice x m c) := fun w' h => (hq w' h).1
      have r1 : ∀ w', Below w1.heap.size w1 w' → w'.cell? ⟨bb, oo + p * 2 + 1, none⟩ = some (.slice y m' c') := fun w' h => (hq w' h).2.2.1
      have r2 : ∀ w', Below w1.heap.size w1 w' → w'.cell? ⟨bb, oo, none⟩ = some (.slice x0 m0 c0) := fun w' h => by
        have := (hq0 w' h).1
        rwa [Nat.zero_mul, Nat.add_zero] at this
      have h0 : (0 : Int) ≤ p := by omega
      have h04 : (p : Int) < (n : Int) := by omega
      have h0n : 0 < n := by omega
      have h0n' : (0 : Int) < (n : Int) := by omega
      have Hq1 := Lib.hid hq; have Hq0 := Lib.hid hq0
      rw [List.nil_append] at ho2
      have Ho2 := Lib.hid ho2
      have HlT := Lib.hid (show (k.drop p ++ k.take p).length = n from by rw [List.length_append, List.length_drop, List.length_take, Hkl.out]; omega)
      have Htu := Lib.hid (show (k.drop p ++ k.take p) ++ [nthF k p, ([], (nthF k p).2), ((nthF k 0).1, [])] = turnK k p from rfl)
      clear hq hq0 ho1 ho2 hg1 hg2 hS1
      generalize k.drop p ++ k.take p = U at *
      obtain ⟨w2, hw2⟩ : ∃ w2 : World, w2 = w6 := ⟨_, rfl⟩
      rw [← hw2] at hS2 Ho2 ⊢
      clear hw2
      have hz2 : w1.heap.size ≤ w2.heap.size := hS2.size
      go_wp2_with fail
      go_region_held3 (fun w' => Below w1.heap.size w1 w') (first | assumption | exact Below.drew (by assumption) | exact Below.alloc (by assumption) (Below.size (by assumption)) _) (first
        | (refine step_append_frg rfl (.tmp 35) (.tmp 51) rfl rfl w1.heap.size w1.heap.size _ U rfl (Ho2.out.below (by first | exact (Below.refl _ _).alloc (Nat.le_refl _) _ | exact ((Below.refl _ _).drew).alloc (by simp) _ | exact ((Below.refl _ _).alloc (Nat.le_refl _) _).drew)) _ _ 3 [nthF k p, ([], (nthF k p).2), ((nthF k 0).1, [])] rfl [(_, _), (_, _), (_, _)] (partsT_three (HI.out _ (by assumption)).1 (HI.out _ (by assumption)).2.1 (ivSl_nil _ _) (HI.out _ (by assumption)).2.1 (HI.out _ (by assumption)).2.2 (enSl_nil _ _)) rfl (rd_block (heap_at_new _ _ _ (by simp)) rfl rfl) (by have := HlT.out; simp; omega) (by simp; omega) (Nat.le_refl _) ?_
           intro v3 w7 ho3 hg3 _
           have hS3 : Below w1.heap.size w1 w7 := by
             refine Below.grown (B := w1.heap.size) (by assumption) hg3 (by simp <;> omega) (fun j hj => (Ho2.out.lt j hj).1)))
      have ho3' := ho3
      rw [Htu.out] at ho3'
      obtain ⟨a3, c3, rfl, hK3⟩ := ho3'.frags
      have HK3 := Lib.hid (fun W (h : Below w7.heap.size w7 W) => hK3.below h)
      have Hb7 := Lib.hid (Hb1.out.trans (hS3.mono Hb1.out.size))
      clear ho3 ho3' hg3 hK3 r0 r1 r2 HI Hhd Htl HPT HPD Ho2 hS2 hS3 Htu
      generalize turnK k p = l at *
      generalize canonK k = C at *
      go_wp2_with fail
      refine (alive_any _ (HR.out _ Hb7.out)).mono ?_
      rintro e w8 ⟨rfl, hb8⟩
      have Hq8 := Lib.hid hb8
      have Hb8 := Lib.hid (Hb7.out.trans (hb8.mono Hb7.out.size)); clear hb8
      go_wp2_with fail
      refine (HCt.out _ _ _ (HK3.out _ Hq8.out)).mono ?_
      rintro e w9 ⟨⟨y9, rfl, ho9⟩, hb9⟩
      obtain ⟨a9, c9, rfl, hK9⟩ := ho9.frags
      have HK9 := Lib.hid (fun W (h : Below w9.heap.size w9 W) => hK9.below h)
      have Hb9 := Lib.hid (Hb8.out.trans (hb9.mono Hb8.out.size)); clear hb9 ho9 hK9
      go_wp2_with fail
      refine (HC.out _ Hb9.out).mono ?_
      rintro e w10 ⟨⟨y10, rfl, ho10⟩, hb10⟩
      obtain ⟨a10, c10, rfl, hK10⟩ := ho10.frags
      have HS := Lib.hid (refSame_refl _ _ _ _ _ _ C w10 (HK9.out _ hb10) hK10)
      have Hb10 := Lib.hid (Hb9.out.trans (hb10.mono Hb9.out.size)); clear hb10 ho10 hK10
      go_wp2_with fail
      refine HS.out.mono ?_
      rintro e w11 ⟨rfl, hb11⟩
      have Hb11 := Lib.hid (Hb10.out.trans (hb11.mono Hb10.out.size)); clear hb11 HS
      go_wp2_with fail
      go_ret
      exact ⟨rfl, Hb11.out⟩

end Go.Proofs.YtlkchfhcfccaoaaGreatDoor
