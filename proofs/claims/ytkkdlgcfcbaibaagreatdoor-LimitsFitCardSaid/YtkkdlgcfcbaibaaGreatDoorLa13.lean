/- Walks and laws, joined: La13. -/
import Derived.Test.YtkkdlgcfcbaibaaGreatDoorLa12
import Derived.Test.YtkkdlgcfcbaibaaGreatDoorLa06
import Derived.Test.YtkkdlgcfcbaibaaGreatDoorLa11
set_option linter.unusedVariables false
namespace Go.Proofs.YtkkdlgcfcbaibaaGreatDoor
section
open Go.RowKit
theorem Ents.at {w : World} {b o n cap : Nat} {v : Vec} (h : Ents w (some ⟨b, o, none⟩) n cap v) {k : Nat} (hk : k < n) : ∀ w', Below w.heap.size w w' →
 w'.cell? ⟨b, o + k * 3, none⟩ = some (.int .u64 (((nthE v k).1 : Nat) : Int)) ∧ w'.cell? ⟨b, o + k * 3 + 1, none⟩ = some (.int .u64 (((nthE v k).2.1 : Nat) : Int)) ∧
  ∃ x m c, w'.cell? ⟨b, o + k * 3 + 2, none⟩ = some (.slice x m c) ∧ Ivs w' x m c (nthE v k).2.2 := by
 intro w' hb
 obtain ⟨b', o', hs, hc⟩ := h.cells (by omega)
 cases hs
 obtain ⟨h1, h2, x, m, c, h3, h4⟩ := hc k hk
 exact ⟨(hb.cell (p := ⟨b, o + k * 3, none⟩) (cell_lt h1)).trans h1, (hb.cell (p := ⟨b, o + k * 3 + 1, none⟩) (cell_lt h2)).trans h2, x, m, c, (hb.cell (p := ⟨b, o + k * 3 + 2, none⟩) (cell_lt h3)).trans h3, h4.below hb⟩
theorem Ents.fix {w : World} {b o n cap : Nat} {v : Vec} (h : Ents w (some ⟨b, o, none⟩) n cap v) {k : Nat} (hk : k < n) : ∃ x m c, ∀ w', Below w.heap.size w w' →
 w'.cell? ⟨b, o + k * 3, none⟩ = some (.int .u64 (((nthE v k).1 : Nat) : Int)) ∧ w'.cell? ⟨b, o + k * 3 + 1, none⟩ = some (.int .u64 (((nthE v k).2.1 : Nat) : Int)) ∧
  w'.cell? ⟨b, o + k * 3 + 2, none⟩ = some (.slice x m c) ∧ Ivs w' x m c (nthE v k).2.2 := by
 obtain ⟨b', o', hs, hc⟩ := h.cells (by omega)
 cases hs
 obtain ⟨h1, h2, x, m, c, h3, h4⟩ := hc k hk
 exact ⟨x, m, c, fun w' hb => ⟨(hb.cell (p := ⟨b, o + k * 3, none⟩) (cell_lt h1)).trans h1, (hb.cell (p := ⟨b, o + k * 3 + 1, none⟩) (cell_lt h2)).trans h2, (hb.cell (p := ⟨b, o + k * 3 + 2, none⟩) (cell_lt h3)).trans h3, h4.below hb⟩⟩
theorem Ents.some {w : World} {a : Option Addr} {n cap : Nat} {v : Vec} (h : Ents w a n cap v) (hn : 0 < n) : ∃ b o, a = some ⟨b, o, none⟩ := by
 obtain ⟨b, o, ha, -⟩ := h.cells hn
 exact ⟨b, o, ha⟩
set_option maxRecDepth 20000 in
set_option maxHeartbeats 2000000 in
theorem refCheck9_any (a : Option Addr) (n cap : Nat) (v : Vec) (w : World) (hE : Ents w a n cap v) :
 Calls Tryz.prog 64 #[.slice a n cap] w fun x w' => x = .returned (.tuple #[.int .i64 (errCode (errOf (ckV v))), .int .i64 (errAt (errOf (ckV v)))]) ∧ Below w.heap.size w w' := by
 have HE := Lib.hid hE
 have Hl := Lib.hid hE.len
 have hm : n ≤ 9223372036854775807 := Nat.le_trans hE.room hE.most
 have Hck := Lib.hid (show ckV v = firstS (ckVAt v) v.length from rfl)
 clear hE
 go_enter Tryz.func64, Tryz.ntmps64
 go_wp2
 go_loopw [4, 5, 6] (fun i _ _ wr => ∃ k : Nat, k ≤ n ∧ i = .int .i64 k ∧ Below w.heap.size w wr ∧ Hid (∀ j, j < k → ckVAt v j = none)) (fun i _ _ _ => n - (intOf i).toNat)
 case atStart => exact ⟨0, by omega, rfl, Below.refl _ _, fun j h => by omega⟩
 case round =>
  obtain ⟨k, hk, rfl, hb, ht⟩ := hrel
  have Hb := Lib.hid hb; clear hb
  by_cases hkn : k < n
  · have hkv : k < v.length := by rw [Hl.out]; exact hkn
    have HEr := Lib.hid (HE.out.below Hb.out)
    obtain ⟨bb, oo, rfl⟩ := HEr.out.some (by omega)
    have Hlt := Lib.hid (HE.out.lt (nthE v k) (nthE_mem hkv))
    obtain ⟨x, m, c, hq⟩ := HEr.out.fix hkn
    have Hq := Lib.hid hq; clear hq
    have Hat := Lib.hid (show ckVAt v k = match ckE (nthE v k) with | some x => some (x.1, k) | none => if 0 < k ∧ (nthE v k).1 ≤ (nthE v (k - 1)).1 then some (3, k) else none from rfl)
    have Hp := Lib.hid (show 0 < k → ∀ w', Below wr.heap.size wr w' → w'.cell? ⟨bb, oo + (k - 1) * 3, none⟩ = some (.int .u64 (((nthE v (k - 1)).1 : Nat) : Int)) from fun h0 w' h => (HEr.out.at (k := k - 1) (by omega) w' h).1)
    generalize nthE v k = e at *
    generalize nthE v (k - 1) = p at *
    have h0 : (0 : Int) ≤ k := by omega
    have h04 : (k : Int) < (n : Int) := by omega
    obtain ⟨q1, q2, q3, q4⟩ := Hq.out _ (Below.refl _ _)
    have hC := Lib.hid (refCheck7_any e x m c wr q4 Hlt.out.max)
    obtain ⟨er, em, eh⟩ := e
    obtain ⟨pr, pm, ph⟩ := p
    simp only at q1 q2 q3 q4 Hp Hat
    clear q4
    cases h : ckE (er, em, eh) with
    | some y =>
     have hc0 := ckE_code h
     obtain ⟨cd, ci⟩ := y
     rw [h] at Hat hC
     simp only [errOf, errCode, errAt] at Hat hC
     have hne : ((cd : Int) != 0) = true := by rw [bne_iff_ne]; simp at hc0; omega
     have Hr := Lib.hid (firstS_some hkv ht.out Hat.out)
     clear h hc0
     go_wp2_with fail
     refine hC.out.mono ?_
     rintro z w1 ⟨rfl, hb1⟩
     have Hb1 := Lib.hid hb1; clear hb1
     go_wp2
     go_ret2
     exact ⟨by rw [Hck.out, Hr.out]; rfl, Hb.out.trans (Hb1.out.mono Hb.out.size)⟩
    | none =>
     rw [h] at Hat hC
     simp only [errOf, errCode, errAt] at Hat hC
     clear h
     by_cases hk0 : 0 < k
     · have hg : decide (0 < (k : Int)) = true := by rw [decide_eq_true_iff]; omega
       have hsub : IntKind.i64.wrap ((k : Int) - 1) = ((k - 1 : Nat) : Int) := by rw [IntKind.wrap_i64]; omega
       have h01 : (0 : Int) ≤ ((k - 1 : Nat) : Int) := by omega
       have h03 : ((k - 1 : Nat) : Int) < (n : Int) := by omega
       go_wp2_with fail
       refine hC.out.mono ?_
       rintro z w1 ⟨rfl, hb1⟩
       have Hb1 := Lib.hid hb1; clear hb1 q1 q2 q3
       obtain ⟨q1, q2, q3, -⟩ := Hq.out _ Hb1.out
       have q5 := Hp.out hk0 _ Hb1.out
       have Hw1 := Lib.hid (Hb.out.trans (Hb1.out.mono Hb.out.size))
       by_cases hle : er ≤ pr
       · have hd1 : decide ((er : Int) ≤ (pr : Int)) = true := by rw [decide_eq_true_iff]; omega
         have hd2 : decide (er ≤ pr) = true := by rw [decide_eq_true_iff]; omega
         have Hr := Lib.hid (firstS_some hkv ht.out (Hat.out.trans (if_pos ⟨hk0, hle⟩)))
         clear hle
         go_wp2
         go_quiet (fail)
         go_wp2
         go_ret2
         exact ⟨by rw [Hck.out, Hr.out]; rfl, by first | exact Hw1.out | exact below_drewN' Hw1.out _⟩
       · have hd1 : decide ((er : Int) ≤ (pr : Int)) = false := by rw [decide_eq_false_iff_not]; omega
         have hd2 : decide (er ≤ pr) = false := by rw [decide_eq_false_iff_not]; omega
         have Hr := Lib.hid (firstS_step ht.out (Hat.out.trans (if_neg (fun h => hle h.2))))
         clear hle
         go_wp2
         go_quiet (fail)
         go_wp2
         go_roundw
         case rel => exact ⟨k + 1, by omega, by go_num, by first | exact Hw1.out | exact below_drewN' Hw1.out _, Hr.out⟩
         case measure => simp [intOf]; omega
     · have hg : decide (0 < (k : Int)) = false := by rw [decide_eq_false_iff_not]; omega
       have Hr := Lib.hid (firstS_step ht.out (Hat.out.trans (if_neg (fun h => hk0 h.1))))
       go_wp2_with fail
       refine hC.out.mono ?_
       rintro z w1 ⟨rfl, hb1⟩
       have Hb1 := Lib.hid hb1; clear hb1
       have Hw1 := Lib.hid (Hb.out.trans (Hb1.out.mono Hb.out.size))
       go_wp2
       go_quiet (fail)
       go_wp2
       go_roundw
       case rel => exact ⟨k + 1, by omega, by go_num, by first | exact Hw1.out | exact below_drewN' Hw1.out _, Hr.out⟩
       case measure => simp [intOf]; omega
  · obtain rfl : k = n := by omega
    have Hr := Lib.hid (firstS_none (n := v.length) (fun j hj => ht.out j (by rw [← Hl.out]; exact hj)))
    go_wp2
    go_ret2
    exact ⟨by rw [Hck.out, Hr.out]; rfl, by first | exact Hb.out | exact below_drewN' Hb.out _⟩
def posE (v : Vec) (r : Nat) : Option Nat := firstS (fun i => if (nthE v i).1 = r then some i else none) v.length
def intO (o : Option Nat) : Int := match o with | some i => (i : Int) | none => -1
theorem posE_some {v : Vec} {r i : Nat} (h : posE v r = some i) : i < v.length ∧ (nthE v i).1 = r := by
 obtain ⟨k, h1, -, h3⟩ := firstS_of_some h
 split at h3
 · rename_i h4; cases h3; exact ⟨h1, h4⟩
 · cases h3
theorem posE_none {v : Vec} {r : Nat} (h : posE v r = none) : ∀ e ∈ v, e.1 ≠ r := by
 intro e he hr
 obtain ⟨i, hi, rfl⟩ := List.getElem_of_mem he
 have := firstS_of_none h i hi
 rw [nthE_get hi, if_pos hr] at this
 cases this
set_option maxRecDepth 20000 in
set_option maxHeartbeats 1000000 in
theorem refFind9_any (a : Option Addr) (n cap r : Nat) (v : Vec) (w : World) (hE : Ents w a n cap v) :
 Calls Tryz.prog 216 #[.slice a n cap, .int .u64 r] w fun x w' => x = .returned (.int .i64 (intO (posE v r))) ∧ Below w.heap.size w w' := by
 have HE := Lib.hid hE
 have Hl := Lib.hid hE.len
 have hm : n ≤ 9223372036854775807 := Nat.le_trans hE.room hE.most
 obtain ⟨f, hf⟩ : ∃ f : Nat → Option Nat, f = fun i => if (nthE v i).1 = r then some i else none := ⟨_, rfl⟩
 have Hck := Lib.hid (show posE v r = firstS f v.length from by rw [hf]; rfl)
 have Hf := Lib.hid (show ∀ i, f i = if (nthE v i).1 = r then some i else none from fun i => by rw [hf])
 clear hE hf
 go_enter Tryz.func216, Tryz.ntmps216
 go_wp2
 go_loopw [5] (fun i wr => ∃ k : Nat, k ≤ n ∧ i = .int .i64 k ∧ Below w.heap.size w wr ∧ Hid (∀ j, j < k → f j = none)) (fun i _ => n - (intOf i).toNat)
 case atStart => exact ⟨0, by omega, rfl, Below.refl _ _, fun j h => by omega⟩
 case round =>
  obtain ⟨k, hk, rfl, hb, ht⟩ := hrel
  have Hb := Lib.hid hb; clear hb
  by_cases hkn : k < n
  · have hkv : k < v.length := by rw [Hl.out]; exact hkn
    have HEr := Lib.hid (HE.out.below Hb.out)
    obtain ⟨bb, oo, rfl⟩ := HEr.out.some (by omega)
    obtain ⟨q1, -, -⟩ := HEr.out.at hkn _ (Below.refl _ _)
    have Hat := Lib.hid (Hf.out k)
    generalize (nthE v k).1 = e at *
    have h0 : (0 : Int) ≤ k := by omega
    have h04 : (k : Int) < (n : Int) := by omega
    by_cases he : e = r
    · have Hr := Lib.hid (firstS_some hkv ht.out (Hat.out.trans (if_pos he)))
      subst he
      clear Hat Hf
      go_wp2
      go_ret
      exact ⟨by rw [Hck.out, Hr.out]; rfl, Hb.out⟩
    · have Hr := Lib.hid (firstS_step ht.out (Hat.out.trans (if_neg he)))
      have hd : ((e : Int) == (r : Int)) = false := by rw [beq_eq_false_iff_ne]; omega
      clear he Hat
      go_wp2
      go_roundw
      case rel => exact ⟨k + 1, by omega, by go_num, Hb.out, Hr.out⟩
      case measure => simp [intOf]; omega
  · obtain rfl : k = n := by omega
    have Hr := Lib.hid (firstS_none (n := v.length) (fun j hj => ht.out j (by rw [← Hl.out]; exact hj)))
    go_wp2
    go_ret
    exact ⟨by rw [Hck.out, Hr.out]; rfl, Hb.out⟩
def fewV (v : Vec) : Bool := v.all (fun e => decide (e.2.2.length ≤ 30)) && decide (v.length ≤ 20)
set_option maxRecDepth 20000 in
set_option maxHeartbeats 1000000 in
theorem refFew9_any (a : Option Addr) (n cap : Nat) (v : Vec) (w : World) (hE : Ents w a n cap v) :
 Calls Tryz.prog 28 #[.slice a n cap] w fun x w' => x = .returned (.bool (fewV v)) ∧ Below w.heap.size w w' := by
 have HE := Lib.hid hE
 have Hl := Lib.hid hE.len
 have hm : n ≤ 9223372036854775807 := Nat.le_trans hE.room hE.most
 have Hcv := Lib.hid (show fewV v = (v.all (fun e => decide (e.2.2.length ≤ 30)) && decide (v.length ≤ 20)) from rfl)
 clear hE
 go_enter Tryz.func28, Tryz.ntmps28
 go_wp2
 go_loopw [3] (fun i wr => ∃ k : Nat, k ≤ n ∧ i = .int .i64 k ∧ Below w.heap.size w wr ∧ Hid (∀ j, j < k → (nthE v j).2.2.length ≤ 30)) (fun i _ => n - (intOf i).toNat)
 case atStart => exact ⟨0, by omega, rfl, Below.refl _ _, fun j h => by omega⟩
 case round =>
  obtain ⟨k, hk, rfl, hb, ht⟩ := hrel
  have Hb := Lib.hid hb; clear hb
  by_cases hkn : k < n
  · have hkv : k < v.length := by rw [Hl.out]; exact hkn
    have HEr := Lib.hid (HE.out.below Hb.out)
    obtain ⟨bb, oo, rfl⟩ := HEr.out.some (by omega)
    have Hmem := Lib.hid (nthE_mem hkv)
    obtain ⟨x, m, c, hq⟩ := HEr.out.fix hkn
    obtain ⟨-, -, q3, q4⟩ := hq _ (Below.refl _ _)
    have Hlen := Lib.hid q4.len
    have Hst := Lib.hid (show (nthE v k).2.2.length ≤ 30 → ∀ j, j < k + 1 → (nthE v j).2.2.length ≤ 30 from fun h j hj => by
     by_cases e : j = k
     · rw [e]; exact h
     · exact ht.out j (by omega))
    generalize nthE v k = e at *
    have h0 : (0 : Int) ≤ k := by omega
    have h04 : (k : Int) < (n : Int) := by omega
    clear q4 hq
    by_cases h : 30 < m
    · have hd : decide (30 < (m : Int)) = true := by rw [decide_eq_true_iff]; omega
      have Hf := Lib.hid (show v.all (fun e => decide (e.2.2.length ≤ 30)) = false from by
       rw [Bool.eq_false_iff]; intro h2; rw [List.all_eq_true] at h2
       have := h2 _ Hmem.out
       rw [decide_eq_true_iff, Hlen.out] at this
       omega)
      clear h
      go_wp2
      go_ret
      exact ⟨by rw [Hcv.out, Hf.out, Bool.false_and]; rfl, Hb.out⟩
    · have hd : decide (30 < (m : Int)) = false := by rw [decide_eq_false_iff_not]; omega
      have Hs := Lib.hid (Hst.out (by rw [Hlen.out]; omega))
      clear h
      go_wp2
      go_roundw
      case rel => exact ⟨k + 1, by omega, by go_num, Hb.out, Hs.out⟩
      case measure => simp [intOf]; omega
  · obtain rfl : k = n := by omega
    have Hr := Lib.hid (show v.all (fun e => decide (e.2.2.length ≤ 30)) = true from by
     rw [List.all_eq_true]
     intro e he
     obtain ⟨i, hi, rfl⟩ := List.getElem_of_mem he
     have := ht.out i (by rw [← Hl.out]; exact hi)
     rw [nthE_get hi] at this
     rw [decide_eq_true_iff]; exact this)
    have hd1 : decide ((k : Int) ≤ 20) = decide (v.length ≤ 20) := by rw [Hl.out]; exact decide_eq_decide.2 (by omega)
    have Hd1 := Lib.hid hd1; clear hd1
    go_wp2
    go_ret
    exact ⟨by rw [Hcv.out, Hr.out, Bool.true_and, ← Hd1.out]; rfl, Hb.out⟩
theorem knownL_len {e : Ent} (h : Lt64 e.2.2) (hm : e.2.1 < 18446744073709551616) : (knownL e).length ≤ 1 + e.2.2.length := by
 have := opL_len_sub (a := [(0, e.2.1)]) (b := e.2.2) (lt64_one (by omega) hm) h
 simpa [knownL] using this
theorem ofE_len {r : Nat} {L : List Iv} {f : Ent} (h : Lt64 L) (hf : ofE r L = some f) : f.2.2.length ≤ 1 + L.length := by
 unfold ofE at hf
 split at hf
 · cases hf
 · cases hf
   have := opL_len_sub (a := [(0, topL L)]) (b := L) (lt64_one (by omega) (topL_lt h)) h
   simpa using this
theorem knownL_lt {e : Ent} (h : Lt64 e.2.2) (hm : e.2.1 < 18446744073709551616) : Lt64 (knownL e) := (opL_good (g := gSub) (lt64_one (by omega) hm) h rfl).2.2
theorem own_slice {w : World} {base sz n : Nat} {e : TypeId} {v : Value} {xs : List Value} (ho : w.ownsRow base e sz v n xs) : ∃ a c, v = .slice a n c := by
 rcases ho.2 with ⟨rfl, rfl⟩ | ⟨g, cap, cur, rfl, _⟩
 · exact ⟨_, _, rfl⟩
 · exact ⟨_, _, rfl⟩
set_option maxRecDepth 20000 in
set_option maxHeartbeats 2000000 in
theorem refCanon7_any (e : Ent) (a : Option Addr) (n c : Nat) (w : World) (hI : Ivs w a n c e.2.2) (hm : e.2.1 < 18446744073709551616) (hn : 2 * e.2.2.length + 5 ≤ 100000) :
 Calls Tryz.prog 176 #[entV e (.slice a n c)] w fun x w' => OfRes w.heap.size (canonE e) x w' ∧ Below w.heap.size w w' := by
 obtain ⟨r, m, hs⟩ := e
 simp only at hI hm hn
 have HI := Lib.hid hI
 have hKl := Lib.hid (knownL_lt (e := (r, m, hs)) hI.lt hm)
 have hKn := Lib.hid (show 2 * (knownL (r, m, hs)).length + 3 ≤ 100000 from by have := knownL_len (e := (r, m, hs)) hI.lt hm; simp only at this; omega)
 have hal : Below w.heap.size w ((w.alloc (.cells #[.int .u64 r, .int .u64 m, .slice a n c] 71)).alloc (.cells #[.int .u64 0, .int .u64 0, .slice none 0 0] 71)) := ((Below.refl _ _).alloc (Nat.le_refl _) _).alloc (by simp) _
 have hq := box3 w (.int .u64 r) (.int .u64 m) (.slice a n c) 71 ((w.alloc (.cells #[.int .u64 r, .int .u64 m, .slice a n c] 71)).alloc (.cells #[.int .u64 0, .int .u64 0, .slice none 0 0] 71)) ((Below.refl _ _).alloc (Nat.le_refl _) _)
 have hrow : ((w.alloc (.cells #[.int .u64 r, .int .u64 m, .slice a n c] 71)).alloc (.cells #[.int .u64 0, .int .u64 0, .slice none 0 0] 71)).heap[w.heap.size + 1]? = some (.cells #[.int .u64 0, .int .u64 0, .slice none 0 0] 71) := row_new (by simp)
 have hsz : ((w.alloc (.cells #[.int .u64 r, .int .u64 m, .slice a n c] 71)).alloc (.cells #[.int .u64 0, .int .u64 0, .slice none 0 0] 71)).heap.size = w.heap.size + 2 := by simp
 have Hcan := Lib.hid (show canonE (r, m, hs) = ofE r (knownL (r, m, hs)) from rfl)
 go_enter Tryz.func176, Tryz.ntmps176
 go_wp2_with fail
 generalize (w.alloc (.cells #[.int .u64 r, .int .u64 m, .slice a n c] 71)).alloc (.cells #[.int .u64 0, .int .u64 0, .slice none 0 0] 71) = W at *
 obtain ⟨q0, q1, q2⟩ := hq
 have HA := Lib.hid hal
 have Hrow := Lib.hid hrow
 have Hsz := Lib.hid hsz
 have Hm := Lib.hid hm
 have Hn := Lib.hid (show 2 * hs.length + 3 ≤ 100000 from by omega)
 have hK := Lib.hid (fun w' (h : Below W.heap.size W w') => refKnown7_any (r, m, hs) a n c w' (HI.out.below (HA.out.trans (h.mono HA.out.size))) Hm.out Hn.out)
 have hO := Lib.hid (fun a n c w' (h : Ivs w' a n c (knownL (r, m, hs))) => refOf7_any r a n c (knownL (r, m, hs)) w' h hKn.out)
 have Hres : ∀ w', Below W.heap.size W w' → w'.cell? ⟨w.heap.size + 1, 0, none⟩ = some (.int .u64 0) ∧ w'.cell? ⟨w.heap.size + 1, 1, none⟩ = some (.int .u64 0) ∧ w'.cell? ⟨w.heap.size + 1, 2, none⟩ = some (.slice none 0 0) ∧
  w'.frozen? ⟨w.heap.size + 1, 0, none⟩ = false ∧ w'.frozen? ⟨w.heap.size + 1, 1, none⟩ = false ∧ w'.frozen? ⟨w.heap.size + 1, 2, none⟩ = false := fun w' h => by
  have hr : w'.heap[w.heap.size + 1]? = some (.cells #[.int .u64 0, .int .u64 0, .slice none 0 0] 71) := (h.block _ (by rw [Hsz.out]; omega)).trans Hrow.out
  exact ⟨cells_cell (i := 0) hr rfl, cells_cell (i := 1) hr rfl, cells_cell (i := 2) hr rfl, by simp [World.frozen?, hr], by simp [World.frozen?, hr], by simp [World.frozen?, hr]⟩
 have HR := Lib.hid Hres
 have Hq := Lib.hid (fun w' (h : Below W.heap.size W w') => And.intro ((h.cell (p := ⟨w.heap.size, 0, none⟩) (cell_lt q0)).trans q0) (And.intro ((h.cell (p := ⟨w.heap.size, 1, none⟩) (cell_lt q1)).trans q1) ((h.cell (p := ⟨w.heap.size, 2, none⟩) (cell_lt q2)).trans q2)))
 clear hal hrow hsz hI hm hn Hres
 generalize hg : knownL (r, m, hs) = L at *
 cases hc : ofE r L with
 | none =>
  have Hnone := Lib.hid (Hcan.out.trans hc)
  rw [hc] at hO
  clear hc
  go_region_with (first
   | (go_at_call 203; refine (hK.out _ (by first | exact Below.refl _ _ | exact (Below.refl _ _).drew)).mono ?_
      rintro e w1 ⟨⟨v, rfl, ho⟩, hb1⟩
      have Hb1 := Lib.hid (show Below W.heap.size W w1 from ⟨hb1.os, hb1.tape, hb1.output, hb1.size, hb1.block⟩)
      obtain ⟨av, cv, rfl, hIv⟩ := ivs_own ho hKl.out
      have HIv := Lib.hid hIv
      clear hb1 ho hIv
      have qq := Hq.out _ Hb1.out
      have q3 := qq.1; have q4 := qq.2.1; have q5 := qq.2.2
      clear qq)
   | (go_at_call 202; refine (hO.out _ _ _ _ (by first | exact HIv.out | exact HIv.out.below (Below.refl _ _).drew)).mono ?_
      rintro e w2 ⟨hof, hb2⟩
      simp only [OfRes] at hof
      subst hof
      have Hb2 := Lib.hid (show Below w1.heap.size w1 w2 from ⟨hb2.os, hb2.tape, hb2.output, hb2.size, hb2.block⟩)
      have Hb3 := Lib.hid (Hb1.out.trans (Hb2.out.mono Hb1.out.size))
      clear hb2
      have qq := HR.out _ Hb3.out
      have z0 := qq.1; have z1 := qq.2.1; have z2 := qq.2.2.1; have z3 := qq.2.2.2.1; have z4 := qq.2.2.2.2.1; have z5 := qq.2.2.2.2.2
      clear qq))
  all_goals go_wp2
  all_goals refine bodyPost_ret (v := .tuple #[entV (0, 0, []) (.slice none 0 0), .bool false]) (by simp [results, Tryz.results176, go_sem, z0, z1, z2]) rfl ?_
  all_goals
   rw [Hnone.out]
   refine ⟨rfl, ?_⟩
   have hz := HA.out.trans (Hb3.out.mono HA.out.size)
   first
    | exact ((hz.setCell (by simp) _).setCell (by simp) _).setCell (by simp) _
    | exact (((hz.setCell (by simp) _).setCell (by simp) _).setCell (by simp) _).drew
    | (refine Below.setCell (Below.setCell (Below.setCell ?_ (by simp) _) (by simp) _) (by simp) _; exact hz.drew)
    | (trace_state; fail)
 | some f =>
  have Hsome := Lib.hid (Hcan.out.trans hc)
  rw [hc] at hO
  clear hc
  obtain ⟨fr, fm, fh⟩ := f
  go_region_with (first
   | (go_at_call 203; refine (hK.out _ (by first | exact Below.refl _ _ | exact (Below.refl _ _).drew)).mono ?_
      rintro e w1 ⟨⟨v, rfl, ho⟩, hb1⟩
      have Hb1 := Lib.hid (show Below W.heap.size W w1 from ⟨hb1.os, hb1.tape, hb1.output, hb1.size, hb1.block⟩)
      obtain ⟨av, cv, rfl, hIv⟩ := ivs_own ho hKl.out
      have HIv := Lib.hid hIv
      clear hb1 ho hIv
      have qq := Hq.out _ Hb1.out
      have q3 := qq.1; have q4 := qq.2.1; have q5 := qq.2.2
      clear qq)
   | (go_at_call 202; refine (hO.out _ _ _ _ (by first | exact HIv.out | exact HIv.out.below (Below.refl _ _).drew)).mono ?_
      rintro e w2 ⟨hof, hb2⟩
      simp only [OfRes] at hof
      obtain ⟨s, rfl, ho2⟩ := hof
      obtain ⟨sa, sc, rfl⟩ := own_slice ho2
      have Ho2 := Lib.hid ho2
      have Hb2 := Lib.hid (show Below w1.heap.size w1 w2 from ⟨hb2.os, hb2.tape, hb2.output, hb2.size, hb2.block⟩)
      have Hb3 := Lib.hid (Hb1.out.trans (Hb2.out.mono Hb1.out.size))
      clear hb2 ho2
      have qq := HR.out _ Hb3.out
      have z0 := qq.1; have z1 := qq.2.1; have z2 := qq.2.2.1; have z3 := qq.2.2.2.1; have z4 := qq.2.2.2.2.1; have z5 := qq.2.2.2.2.2
      clear qq))
  all_goals go_wp2
  all_goals refine bodyPost_ret (v := .tuple #[.agg #[.int .u64 fr, .int .u64 fm, .slice sa fh.length sc], .bool true]) (by simp [results, Tryz.results176, go_sem, z0, z1, z2]) rfl ?_
  all_goals
   rw [Hsome.out]
   have hz := HA.out.trans (Hb3.out.mono HA.out.size)
   have Hh : ∀ (a : Addr) (u : Value) (V : World), a.block = w.heap.size + 1 → ∀ k, W.heap.size ≤ k → (V.setCell a u).heap[k]? = V.heap[k]? := fun a u V ha k hk => Below.heap_setCell _ _ _ _ (by have := Hsz.out; omega)
   have hw1 := Hb1.out.size
   refine ⟨⟨_, rfl, own_mono (base := W.heap.size) (own_same (own_mono Ho2.out (by first | exact Hb1.out.size | (simp; exact Hb1.out.size))) (fun k hk1 _ => ?_)) (by have := Hsz.out; omega)⟩, ?_⟩
   · first
      | rw [Hh _ _ _ rfl k hk1, Hh _ _ _ rfl k hk1, Hh _ _ _ rfl k hk1]
      | (show (World.setCell _ _ _).heap[k]? = _; rw [Hh _ _ _ rfl k hk1, Hh _ _ _ rfl k hk1, Hh _ _ _ rfl k hk1])
      | (trace_state; fail)
   · first
      | exact ((hz.setCell (by simp) _).setCell (by simp) _).setCell (by simp) _
      | exact (((hz.setCell (by simp) _).setCell (by simp) _).setCell (by simp) _).drew
      | (refine Below.setCell (Below.setCell (Below.setCell ?_ (by simp) _) (by simp) _) (by simp) _; exact hz.drew)
      | (trace_state; fail)
end
section
open Go.RowKit Go.Shelf
def IvCell (w : World) (p : Addr) (l : List Iv) : Prop := ∃ x n c, w.cell? p = some (.slice x n c) ∧ Ivs w x n c l
def EnCell (w : World) (p : Addr) (v : Vec) : Prop := ∃ x n c, w.cell? p = some (.slice x n c) ∧ Ents w x n c v
theorem IvCell.below {w w' : World} {p : Addr} {l : List Iv} (h : IvCell w p l) (hb : Below w.heap.size w w') : IvCell w' p l :=
 let ⟨x, n, c, h1, h2⟩ := h; ⟨x, n, c, (hb.cell (cell_lt h1)).trans h1, h2.below hb⟩
theorem EnCell.below {w w' : World} {p : Addr} {v : Vec} (h : EnCell w p v) (hb : Below w.heap.size w w') : EnCell w' p v :=
 let ⟨x, n, c, h1, h2⟩ := h; ⟨x, n, c, (hb.cell (cell_lt h1)).trans h1, h2.below hb⟩
structure Frags (w : World) (a : Option Addr) (n cap : Nat) (k : Kno) : Prop where
 len : k.length = n
 room : n ≤ cap
 most : cap ≤ 9223372036854775807
 nilc : a = none → cap = 0
 cells : 0 < n → ∃ b o, a = some ⟨b, o, none⟩ ∧ ∀ i, i < n → IvCell w ⟨b, o + i * 2, none⟩ (nthF k i).1 ∧ EnCell w ⟨b, o + i * 2 + 1, none⟩ (nthF k i).2
theorem Frags.below {w w' : World} {a : Option Addr} {n cap : Nat} {k : Kno} (h : Frags w a n cap k) (hb : Below w.heap.size w w') : Frags w' a n cap k := by
 refine ⟨h.len, h.room, h.most, h.nilc, fun hn => ?_⟩
 obtain ⟨b, o, ha, hc⟩ := h.cells hn
 exact ⟨b, o, ha, fun i hi => ⟨(hc i hi).1.below hb, (hc i hi).2.below hb⟩⟩
theorem frags_nil (w : World) : Frags w none 0 0 [] := ⟨rfl, by omega, by omega, fun _ => rfl, fun h => by omega⟩
theorem Frags.lt {w : World} {a : Option Addr} {n cap : Nat} {k : Kno} (h : Frags w a n cap k) {i : Nat} (hi : i < n) : Lt64 (nthF k i).1 ∧ LtV (nthF k i).2 := by
 obtain ⟨b, o, -, hc⟩ := h.cells (by omega)
 obtain ⟨⟨_, _, _, _, h1⟩, ⟨_, _, _, _, h2⟩⟩ := hc i hi
 exact ⟨h1.lt, h2.lt⟩
theorem Frags.all {w : World} {a : Option Addr} {n cap : Nat} {k : Kno} (h : Frags w a n cap k) : ∀ f ∈ k, Lt64 f.1 ∧ LtV f.2 := by
 intro f hf
 obtain ⟨i, hi, rfl⟩ := List.getElem_of_mem hf
 have := h.lt (i := i) (by rw [← h.len]; exact hi)
 rwa [nthF_get hi] at this
structure EntsT (w : World) (base : Nat) (a : Option Addr) (n c : Nat) (v : Vec) : Prop where
 len : v.length = n
 lt : LtV v
 room : n ≤ c
 most : c ≤ 9223372036854775807
 nilc : a = none → c = 0
 row : 0 < n → ∀ p, a = some p → RowAt w base 71 p.block
 cells : 0 < n → ∃ b o, a = some ⟨b, o, none⟩ ∧ ∀ i, i < n → w.cell? ⟨b, o + i * 3, none⟩ = some (.int .u64 (((nthE v i).1 : Nat) : Int)) ∧ w.cell? ⟨b, o + i * 3 + 1, none⟩ = some (.int .u64 (((nthE v i).2.1 : Nat) : Int)) ∧
  ∃ x k c, w.cell? ⟨b, o + i * 3 + 2, none⟩ = some (.slice x k c) ∧ IvsT w base x k c (nthE v i).2.2
theorem EntsT.ents {w : World} {base : Nat} {a : Option Addr} {n c : Nat} {v : Vec} (h : EntsT w base a n c v) : Ents w a n c v := by
 refine ⟨h.len, h.lt, h.room, h.most, h.nilc, fun hn => ?_⟩
 obtain ⟨b, o, ha, hc⟩ := h.cells hn
 refine ⟨b, o, ha, fun i hi => ?_⟩
 obtain ⟨h1, h2, x, k, d, h3, h4⟩ := hc i hi
 exact ⟨h1, h2, x, k, d, h3, h4.ivs⟩
theorem entsT_nil (w : World) (base : Nat) : EntsT w base none 0 0 [] := ⟨rfl, by simp, by omega, by omega, fun _ => rfl, fun h => by omega, fun h => by omega⟩
theorem EntsT.steady {w w' : World} {base : Nat} {P : TypeId → Prop} {a : Option Addr} {n c : Nat} {v : Vec} (h : EntsT w base a n c v) (hs : Steady base P w w') (h1 : P 73) (h2 : P 71) : EntsT w' base a n c v := by
 refine ⟨h.len, h.lt, h.room, h.most, h.nilc, fun hn p hp => ?_, fun hn => ?_⟩
 · obtain ⟨b, o, ha, hc⟩ := h.cells hn
   rw [ha] at hp
   cases hp
   exact (rowAt_steady (h.row hn _ ha) (cell_lt (hc 0 hn).1) hs h2).1
 · obtain ⟨b, o, ha, hc⟩ := h.cells hn
   obtain ⟨-, hrow⟩ := rowAt_steady (h.row hn _ ha) (cell_lt (hc 0 hn).1) hs h2
   refine ⟨b, o, ha, fun i hi => ?_⟩
   obtain ⟨e1, e2, x, k, d, e3, e4⟩ := hc i hi
   exact ⟨(World.cell?_of_block (a := ⟨b, o + i * 3, none⟩) hrow).trans e1, (World.cell?_of_block (a := ⟨b, o + i * 3 + 1, none⟩) hrow).trans e2, x, k, d,
    (World.cell?_of_block (a := ⟨b, o + i * 3 + 2, none⟩) hrow).trans e3, e4.steady hs h1⟩
theorem rowAt_lower {w : World} {base base' : Nat} {T : TypeId} {b : Nat} (h : RowAt w base T b) (hb : base ≤ base') : RowAt w base' T b := h.imp (fun h => by omega) id
theorem IvsT.raise {w : World} {base base' : Nat} {a : Option Addr} {n c : Nat} {l : List Iv} (h : IvsT w base a n c l) (hb : base ≤ base') : IvsT w base' a n c l := ⟨h.ivs, fun hn p hp => rowAt_lower (h.row hn p hp) hb⟩
theorem EntsT.raise {w : World} {base base' : Nat} {a : Option Addr} {n c : Nat} {v : Vec} (h : EntsT w base a n c v) (hb : base ≤ base') : EntsT w base' a n c v := by
 refine ⟨h.len, h.lt, h.room, h.most, h.nilc, fun hn p hp => rowAt_lower (h.row hn p hp) hb, fun hn => ?_⟩
 obtain ⟨b, o, ha, hc⟩ := h.cells hn
 refine ⟨b, o, ha, fun i hi => ?_⟩
 obtain ⟨e1, e2, x, k, d, e3, e4⟩ := hc i hi
 exact ⟨e1, e2, x, k, d, e3, e4.raise hb⟩
theorem OwnV.entsT {w : World} {base base' : Nat} {x : Value} {v : Vec} (h : OwnV w base x v) (hl : LtV v) : ∃ a c, x = .slice a v.length c ∧ EntsT w base' a v.length c v := by
 obtain ⟨ss, ho, hs⟩ := h
 have ho2 := ho
 rcases ho.2 with ⟨rfl, h0⟩ | ⟨g, cap, cur, rfl, hg, hh, hnc, hcm, _⟩
 · rw [h0]
   have : v = [] := List.length_eq_zero_iff.1 h0
   subst this
   exact ⟨none, 0, rfl, entsT_nil w base'⟩
 · refine ⟨_, _, rfl, rfl, hl, hnc, by unfold maxLen at hcm; omega, (by intro h; cases h), fun hn p hp => ?_, fun hn => ⟨g, 0, rfl, fun i hi => ?_⟩⟩
   · cases hp; exact .inr ⟨_, _, hh⟩
   obtain ⟨e1, e2, e3⟩ := entC_get hs.1 hi
   obtain ⟨a, n, c, h1, h2⟩ := hs.2 i hi
   rw [h1] at e3
   have c1 := ho2.cells (g := g) rfl _ _ e1
   have c2 := ho2.cells (g := g) rfl _ _ e2
   have c3 := ho2.cells (g := g) rfl _ _ e3
   rw [add_at] at c1 c2 c3
   exact ⟨c1, by rw [Nat.add_assoc]; exact c2, a, n, c, by rw [Nat.add_assoc]; exact c3, h2.raise (Nat.zero_le _)⟩
def frgC (ss : List (Value × Value)) : List Value := ss.flatMap fun p => [p.1, p.2]
theorem frgC_append (ss ts : List (Value × Value)) : frgC (ss ++ ts) = frgC ss ++ frgC ts := by simp [frgC]
theorem frgC_get : ∀ {ss : List (Value × Value)} {i : Nat} {p : Value × Value}, ss[i]? = some p → (frgC ss)[i * 2]? = some p.1 ∧ (frgC ss)[i * 2 + 1]? = some p.2
 | [], i, p, h => by simp at h
 | s :: ss, 0, p, h => by simp at h; subst h; exact ⟨rfl, rfl⟩
 | s :: ss, i + 1, p, h => by
   have := frgC_get (ss := ss) (i := i) (p := p) (by simpa using h)
   have e1 : frgC (s :: ss) = s.1 :: s.2 :: frgC ss := rfl
   rw [e1, show (i + 1) * 2 = i * 2 + 1 + 1 by omega, show i * 2 + 1 + 1 + 1 = (i * 2 + 1) + 1 + 1 by omega]
   simpa using this
def IvSl (w : World) (base : Nat) (x : Value) (l : List Iv) : Prop := ∃ a n c, x = .slice a n c ∧ IvsT w base a n c l
def EnSl (w : World) (base : Nat) (x : Value) (v : Vec) : Prop := ∃ a n c, x = .slice a n c ∧ EntsT w base a n c v
theorem IvSl.steady {w w' : World} {base : Nat} {P : TypeId → Prop} {x : Value} {l : List Iv} (h : IvSl w base x l) (hs : Steady base P w w') (h1 : P 73) : IvSl w' base x l :=
 let ⟨a, n, c, e, h⟩ := h; ⟨a, n, c, e, h.steady hs h1⟩
theorem EnSl.steady {w w' : World} {base : Nat} {P : TypeId → Prop} {x : Value} {v : Vec} (h : EnSl w base x v) (hs : Steady base P w w') (h1 : P 73) (h2 : P 71) : EnSl w' base x v :=
 let ⟨a, n, c, e, h⟩ := h; ⟨a, n, c, e, h.steady hs h1 h2⟩
theorem IvSl.raise {w : World} {base base' : Nat} {x : Value} {l : List Iv} (h : IvSl w base x l) (hb : base ≤ base') : IvSl w base' x l :=
 let ⟨a, n, c, e, h⟩ := h; ⟨a, n, c, e, h.raise hb⟩
theorem EnSl.raise {w : World} {base base' : Nat} {x : Value} {v : Vec} (h : EnSl w base x v) (hb : base ≤ base') : EnSl w base' x v :=
 let ⟨a, n, c, e, h⟩ := h; ⟨a, n, c, e, h.raise hb⟩
def PartsT (w : World) (base : Nat) (k : Kno) (ss : List (Value × Value)) : Prop := ss.length = k.length ∧ ∀ i, i < k.length → ∃ p, ss[i]? = some p ∧ IvSl w base p.1 (nthF k i).1 ∧ EnSl w base p.2 (nthF k i).2
theorem PartsT.steady {w w' : World} {base : Nat} {P : TypeId → Prop} {k : Kno} {ss : List (Value × Value)} (h : PartsT w base k ss) (hs : Steady base P w w') (h1 : P 73) (h2 : P 71) : PartsT w' base k ss :=
 ⟨h.1, fun i hi => let ⟨p, e, h3, h4⟩ := h.2 i hi; ⟨p, e, h3.steady hs h1, h4.steady hs h1 h2⟩⟩
theorem PartsT.raise {w : World} {base base' : Nat} {k : Kno} {ss : List (Value × Value)} (h : PartsT w base k ss) (hb : base ≤ base') : PartsT w base' k ss :=
 ⟨h.1, fun i hi => let ⟨p, e, h3, h4⟩ := h.2 i hi; ⟨p, e, h3.raise hb, h4.raise hb⟩⟩
theorem partsT_nil (w : World) (base : Nat) : PartsT w base [] [] := ⟨rfl, fun i hi => by simp at hi⟩
theorem nthF_app {k j : Kno} {i : Nat} (h : i < k.length) : nthF (k ++ j) i = nthF k i := by
 rw [nthF_get (by rw [List.length_append]; omega), nthF_get h, List.getElem_append_left h]
theorem nthF_app2 {k j : Kno} {i : Nat} (h : i < j.length) : nthF (k ++ j) (k.length + i) = nthF j i := by
 rw [nthF_get (by rw [List.length_append]; omega), nthF_get h, List.getElem_append_right (by omega)]
 simp
theorem PartsT.append {w : World} {base : Nat} {k j : Kno} {ss ts : List (Value × Value)} (h : PartsT w base k ss) (h' : PartsT w base j ts) : PartsT w base (k ++ j) (ss ++ ts) := by
 refine ⟨by simp [h.1, h'.1], fun i hi => ?_⟩
 by_cases hv : i < k.length
 · obtain ⟨p, e, h1, h2⟩ := h.2 i hv
   refine ⟨p, by rw [List.getElem?_append_left (by rw [h.1]; exact hv)]; exact e, ?_⟩
   rw [nthF_app hv]; exact ⟨h1, h2⟩
 · obtain ⟨d, rfl⟩ : ∃ d, i = k.length + d := ⟨i - k.length, by omega⟩
   have hd : d < j.length := by rw [List.length_append] at hi; omega
   obtain ⟨p, e, h1, h2⟩ := h'.2 d hd
   refine ⟨p, by rw [List.getElem?_append_right (by rw [h.1]; omega), h.1, Nat.add_sub_cancel_left]; exact e, ?_⟩
   rw [nthF_app2 hd]; exact ⟨h1, h2⟩
theorem partsT_one {w : World} {base : Nat} {f : Frg} {x y : Value} (h1 : IvSl w base x f.1) (h2 : EnSl w base y f.2) : PartsT w base [f] [(x, y)] :=
 ⟨rfl, fun i hi => by obtain rfl : i = 0 := by simpa using hi
                      exact ⟨(x, y), rfl, h1, h2⟩⟩
theorem PartsT.take {w : World} {base : Nat} {k : Kno} {ss : List (Value × Value)} (h : PartsT w base k ss) (n : Nat) : PartsT w base (k.take n) (ss.take n) := by
 refine ⟨by simp [h.1], fun i hi => ?_⟩
 have hi2 : i < k.length ∧ i < n := by rw [List.length_take] at hi; omega
 obtain ⟨p, e, h1⟩ := h.2 i hi2.1
 refine ⟨p, by rw [List.getElem?_take, if_pos hi2.2]; exact e, ?_⟩
 have : nthF (k.take n) i = nthF k i := by rw [nthF_get hi, nthF_get hi2.1, List.getElem_take]
 rw [this]; exact h1
theorem PartsT.drop {w : World} {base : Nat} {k : Kno} {ss : List (Value × Value)} (h : PartsT w base k ss) (n : Nat) : PartsT w base (k.drop n) (ss.drop n) := by
 refine ⟨by simp [h.1], fun i hi => ?_⟩
 have hi2 : n + i < k.length := by rw [List.length_drop] at hi; omega
 obtain ⟨p, e, h1⟩ := h.2 (n + i) hi2
 refine ⟨p, by rw [List.getElem?_drop]; exact e, ?_⟩
 have : nthF (k.drop n) i = nthF k (n + i) := by rw [nthF_get hi, nthF_get hi2, List.getElem_drop]
 rw [this]; exact h1
theorem PartsT.set {w : World} {base : Nat} {k : Kno} {ss : List (Value × Value)} {n : Nat} {f : Frg} {x y : Value} (h : PartsT w base k ss) (h1 : IvSl w base x f.1) (h2 : EnSl w base y f.2) : PartsT w base (k.set n f) (ss.set n (x, y)) := by
 refine ⟨by simp [h.1], fun i hi => ?_⟩
 have hi' : i < k.length := by simpa using hi
 obtain ⟨p, e, h3⟩ := h.2 i hi'
 by_cases e : n = i
 · subst e
   refine ⟨(x, y), by rw [List.getElem?_set_self (by rw [h.1]; exact hi')], ?_⟩
   have : nthF (k.set n f) n = f := by rw [nthF_get hi]; simp
   rw [this]; exact ⟨h1, h2⟩
 · refine ⟨p, by rw [List.getElem?_set_ne e]; assumption, ?_⟩
   have : nthF (k.set n f) i = nthF k i := by rw [nthF_get hi, nthF_get hi', List.getElem_set_ne e]
   rw [this]; exact h3
def OwnK (w : World) (base inner : Nat) (x : Value) (k : Kno) : Prop := ∃ ss, w.ownsRow base 39 2 x k.length (frgC ss) ∧ PartsT w inner k ss
theorem ownK_nil (w : World) (base inner : Nat) : OwnK w base inner (.slice none 0 0) [] := ⟨[], World.ownsRow_nil .., partsT_nil w inner⟩
theorem own_steady {w w' : World} {base inner sz n : Nat} {P : TypeId → Prop} {T : TypeId} {x : Value} {xs : List Value} (ho : w.ownsRow base T sz x n xs) (hs : Steady inner P w w') (h1 : P T) : w'.ownsRow base T sz x n xs := by
 refine ⟨ho.1, ?_⟩
 rcases ho.2 with h' | ⟨g, cap, cur, hv, hg, hr, rest⟩
 · exact .inl h'
 · exact .inr ⟨g, cap, cur, hv, hg, (hs.row g (Array.getElem?_eq_some_iff.1 hr).1 (.inr ⟨_, _, _, h1, hr⟩)).trans hr, rest⟩
theorem OwnK.steady {w w' : World} {base inner : Nat} {P : TypeId → Prop} {x : Value} {k : Kno} (h : OwnK w base inner x k) (hs : Steady inner P w w') (h1 : P 73) (h2 : P 71) (h3 : P 39) : OwnK w' base inner x k :=
 let ⟨ss, ho, hh⟩ := h; ⟨ss, own_steady ho hs h3, hh.steady hs h1 h2⟩
theorem OwnK.below {w w' : World} {base inner : Nat} {x : Value} {k : Kno} (h : OwnK w base inner x k) (hb : Below w.heap.size w w') : OwnK w' base inner x k :=
 h.steady (P := fun _ => True) (.of_below hb) trivial trivial trivial
theorem OwnK.lower {w : World} {base base' inner : Nat} {x : Value} {k : Kno} (h : OwnK w base inner x k) (hb : base' ≤ base) : OwnK w base' inner x k :=
 let ⟨ss, ho, hh⟩ := h; ⟨ss, own_mono ho hb, hh⟩
theorem OwnK.raise {w : World} {base inner inner' : Nat} {x : Value} {k : Kno} (h : OwnK w base inner x k) (hb : inner ≤ inner') : OwnK w base inner' x k :=
 let ⟨ss, ho, hh⟩ := h; ⟨ss, ho, hh.raise hb⟩
theorem OwnK.frags {w : World} {base inner : Nat} {x : Value} {k : Kno} (h : OwnK w base inner x k) : ∃ a c, x = .slice a k.length c ∧ Frags w a k.length c k := by
 obtain ⟨ss, ho, hs⟩ := h
 have ho2 := ho
 rcases ho.2 with ⟨rfl, h0⟩ | ⟨g, cap, cur, rfl, hg, hh, hnc, hcm, _⟩
 · rw [h0]
   have : k = [] := List.length_eq_zero_iff.1 h0
   subst this
   exact ⟨none, 0, rfl, frags_nil w⟩
 · refine ⟨_, _, rfl, rfl, hnc, by unfold maxLen at hcm; omega, (by intro h; cases h), fun hn => ⟨g, 0, rfl, fun i hi => ?_⟩⟩
   obtain ⟨p, e, ⟨a1, n1, m1, p1, i1⟩, ⟨a2, n2, m2, p2, i2⟩⟩ := hs.2 i hi
   obtain ⟨e1, e2⟩ := frgC_get e
   rw [p1] at e1
   rw [p2] at e2
   have c1 := ho2.cells (g := g) rfl _ _ e1
   have c2 := ho2.cells (g := g) rfl _ _ e2
   rw [add_at] at c1 c2
   exact ⟨⟨a1, n1, m1, c1, i1.ivs⟩, ⟨a2, n2, m2, by rw [Nat.add_assoc]; exact c2, i2.ents⟩⟩
theorem Tryz.info_frg : (Tryz.prog.info? 39).map (fun i => (i.zero, i.size, i.bytes)) = some (some (.agg #[.slice none 0 0, .slice none 0 0]), 2, 48) := by kernel_rfl
theorem PartsT.one {w : World} {base : Nat} {k : Kno} {ss : List (Value × Value)} (h : PartsT w base k ss) : ∀ u ∈ frgC ss, u.oneCell' = true := by
 intro u hu
 simp only [frgC, List.mem_flatMap] at hu
 obtain ⟨p, hp, hu⟩ := hu
 obtain ⟨i, hi, rfl⟩ := List.getElem_of_mem hp
 obtain ⟨q, e, ⟨_, _, _, h1, _⟩, ⟨_, _, _, h2, _⟩⟩ := h.2 i (by rw [← h.1]; exact hi)
 rw [List.getElem?_eq_getElem hi] at e
 cases e
 simp only [List.mem_cons, List.not_mem_nil, or_false] at hu
 rcases hu with rfl | rfl
 · rw [h1]; rfl
 · rw [h2]; rfl
theorem run_append_frg {w : World} (base inner : Nat) (x : Value) (k j : Kno) (hown : OwnK w base inner x k) (ts : List (Value × Value)) (hp : PartsT w inner j ts) (A : Option Addr) (cA : Nat)
 (hr : Rd w 2 A j.length (frgC ts)) (hb : k.length + j.length ≤ 1000000) (hbase : base ≤ w.heap.size) (hin : inner ≤ base) :
 ∃ x' w', (Builtin.append_ #[23, 23] 23 #[x, .slice A j.length cA]).run Tryz.prog w = .ok x' w' ∧ OwnK w' base inner x' (k ++ j) ∧ w.grownBy w' x.ownBlock ∧ Steady base isEnT w w' := by
 obtain ⟨ss, ho, hh⟩ := hown
 obtain ⟨x', w', h1, h2, h3⟩ := run_append_rd base _ _ _ _ 2 48 Tryz.underlying23 Tryz.info_frg rfl (by omega) x k.length _ ho A j.length cA _ hr hp.one (by unfold maxLen; omega) (by omega) hbase
 have hs : Steady base isEnT w w' := .grown ho h3 (by rintro (h | h) <;> cases h)
 refine ⟨x', w', h1, ⟨ss ++ ts, ?_, (hh.append hp).steady (hs.lower hin) (.inl rfl) (.inr rfl)⟩, h3, hs⟩
 rw [frgC_append, List.length_append]
 exact h2
end
end Go.Proofs.YtkkdlgcfcbaibaaGreatDoor
