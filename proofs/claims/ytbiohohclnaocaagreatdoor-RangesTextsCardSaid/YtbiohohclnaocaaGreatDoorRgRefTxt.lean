/-
  Walk: kenningref02.Text, at numbers of one word.
-/
import Derived.Test.YtbiohohclnaocaaGreatDoorRgDbl
import Derived.Test.YtbiohohclnaocaaGreatDoorRgDec
namespace Go.Proofs.YtbiohohclnaocaaGreatDoor
open Go.RowKit
set_option linter.unusedVariables false

theorem low_wrap (m : Nat) : bits .and .i64 (IntKind.i64.wrap (m : Int)) 1 = ((m % 2 : Nat) : Int) := by
  show IntKind.i64.wrap ((BitVec.ofInt 64 (IntKind.i64.wrap (m : Int)) &&& BitVec.ofInt 64 1).toNat : Int) = _
  have h1 : (BitVec.ofInt 64 1).toNat = 1 := by decide
  have h2 : (BitVec.ofInt 64 (IntKind.i64.wrap (m : Int))).toNat % 2 = m % 2 := by
    rw [BitVec.toNat_ofInt, IntKind.wrap_i64]
    omega
  rw [BitVec.toNat_and, h1, Nat.and_one_is_mod, h2, IntKind.wrap_i64]
  omega

theorem shr_bit (x k : Nat) : bits .and .i64 (wrap64 ((x : Int) / 2 ^ k)) 1 = (((x / 2 ^ k) % 2 : Nat) : Int) := by
  have e : ((x : Int) / 2 ^ k) = ((x / 2 ^ k : Nat) : Int) := by
    rw [Int.natCast_ediv, Int.natCast_pow]; rfl
  have h := low_wrap (x / 2 ^ k)
  rw [IntWalk.i64_left] at h
  generalize (x / 2 ^ k) = y at *
  rw [e]
  exact h

theorem half_succ (x j : Nat) : 2 * (x / 2 ^ (j + 1)) + (x / 2 ^ j) % 2 = x / 2 ^ j := by
  rw [Nat.pow_succ, ← Nat.div_div_eq_div_mul]
  generalize x / 2 ^ j = y
  omega

theorem half_step (x k : Nat) (h : 0 < k) : 2 * (x / 2 ^ k) + (x / 2 ^ (k - 1)) % 2 = x / 2 ^ (k - 1) := by
  cases k with
  | zero => omega
  | succ j => exact half_succ x j

theorem digit_cut {d : Nat} (h : d < 10) : (⟨#[48, 49, 50, 51, 52, 53, 54, 55, 56, 57]⟩ : ByteArray).extract d (d + 1) = ⟨#[dgB d]⟩ := by
  have : ∀ k : Fin 10, ((⟨#[48, 49, 50, 51, 52, 53, 54, 55, 56, 57]⟩ : ByteArray).extract k.1 (k.1 + 1)).data.toList = [dgB k.1] := by decide
  have h' := this ⟨d, h⟩
  apply ByteArray.ext
  apply Array.toList_inj.1
  exact h'

set_option maxRecDepth 20000 in
set_option maxHeartbeats 4000000 in
theorem refText2_any (x : Nat) (hx : x < 18446744073709551616) (w : World) :
    Calls Tryz.prog 38 #[.int .u64 0, .int .u64 x] w fun e w' => e = .returned (strV (dec x)) ∧ Below w.heap.size w w' := by
  go_enter Tryz.func38, Tryz.ntmps38
  go_wp2
  go_loopw [5, 6] (fun v i wr => ∃ k : Nat, k ≤ 64 ∧ i = .int .i64 ((k : Int) - 1) ∧ Below w.heap.size w wr ∧ Hid (wr.ownsRow w.heap.size 3 1 v 0 (i64C []))) (fun _ i _ => (intOf i + 1).toNat)
  case atStart => exact ⟨64, by omega, rfl, Below.refl _ _, World.ownsRow_nil _ _ _ _⟩
  case round =>
    obtain ⟨k, hk, rfl, hb, ho⟩ := hrel
    have Hb := Lib.hid hb; clear hb
    by_cases hk0 : 0 < k
    · have hz : bits BinOp.and IntKind.i64 0 1 = 0 := low_wrap 0
      obtain ⟨av, cv, rfl, hIv⟩ := i64s_own ho.out
      have HIv := Lib.hid hIv
      clear hIv
      go_wp2_with fail
      refine (refDouble_any av 0 cv 0 [] _ HIv.out (by simp) (by omega) (by omega)).mono ?_
      rintro e w1 ⟨⟨v1, rfl, ho1⟩, hb1⟩
      have Hb1 := Lib.hid (Hb.out.trans (hb1.mono Hb.out.size))
      have Ho1 := Lib.hid (own_mono ho1 Hb.out.size)
      clear hb1 ho1
      go_wp2
      go_roundw
      case rel => exact ⟨k - 1, by omega, by go_num, Hb1.out, Ho1.out⟩
      case measure => simp [intOf]; omega
    · obtain rfl : k = 0 := by omega
      have Ho0 := Lib.hid ho.out
      rw [show (((0 : Nat) : Int) - 1) = -1 from rfl]
      go_wp2
      go_loopw [5, 7] (fun v i wr => ∃ k : Nat, k ≤ 64 ∧ i = .int .i64 ((k : Int) - 1) ∧ Below w.heap.size w wr ∧ Hid (wr.ownsRow w.heap.size 3 1 v (decAsc (x / 2 ^ k)).length (i64C (decAsc (x / 2 ^ k))))) (fun _ i _ => (intOf i + 1).toNat)
      case atStart => exact ⟨64, by omega, rfl, Hb.out, by
        rw [Nat.div_eq_of_lt (by omega), decAsc_zero]
        exact Ho0.out⟩
      case round =>
        obtain ⟨k, hk, rfl, hb, ho⟩ := hrel
        have Hc := Lib.hid hb; clear hb
        by_cases hk0 : 0 < k
        · have Hlen := Lib.hid (decAsc_len 20 (x / 2 ^ k) (by
            have := Nat.div_le_self x (2 ^ k)
            omega))
          have Hlt := Lib.hid (decAsc_lt (x / 2 ^ k))
          have Hdb := Lib.hid (show dblL (decAsc (x / 2 ^ k)) ((x / 2 ^ (k - 1)) % 2) = decAsc (x / 2 ^ (k - 1)) from by
            rw [dbl_dec _ _ (by omega), half_step x k hk0])
          have Hsb := Lib.hid (shr_bit x (k - 1))
          obtain ⟨av, cv, rfl, hIv⟩ := i64s_own ho.out
          have HIv := Lib.hid hIv
          have Hb1 : (x / 2 ^ (k - 1)) % 2 ≤ 1 := by omega
          generalize (x / 2 ^ (k - 1)) % 2 = bt at *
          clear hIv
          go_wp2_with fail
          rw [Hsb.out]
          refine (refDouble_any av _ cv bt _ _ HIv.out Hlt.out Hb1 (by have := Hlen.out; omega)).mono ?_
          rintro e w1 ⟨⟨v1, rfl, ho1⟩, hb1⟩
          rw [Hdb.out] at ho1
          have Hc1 := Lib.hid (Hc.out.trans (hb1.mono Hc.out.size))
          have Ho1 := Lib.hid (own_mono ho1 Hc.out.size)
          clear hb1 ho1
          go_wp2
          go_roundw
          case rel => exact ⟨k - 1, by omega, by go_num, Hc1.out, Ho1.out⟩
          case measure => simp [intOf]; omega
        · obtain rfl : k = 0 := by omega
          have ho' := ho.out
          rw [Nat.pow_zero, Nat.div_one] at ho'
          have Hlt := Lib.hid (decAsc_lt x)
          have hlen := decAsc_len 20 x (by omega)
          obtain ⟨av, cv, rfl, hIv⟩ := i64s_own ho'
          have HIv := Lib.hid hIv
          have Hdx := Lib.hid (dec_asc x)
          have Hne := Lib.hid (show x ≠ 0 → decAsc x ≠ [] from fun h => by rw [decAsc_pos h]; simp)
          have Hze := Lib.hid (show x = 0 → decAsc x = [] from fun h => by rw [h, decAsc_zero])
          clear hIv ho' ho
          generalize decAsc x = D at *
          obtain ⟨M, hM⟩ : ∃ M, M = D.length := ⟨_, rfl⟩
          rw [← hM] at HIv hlen ⊢
          have HM := Lib.hid hM
          clear hM
          obtain ⟨w3, rfl⟩ : ∃ w3 : World, w3 = wr := ⟨_, rfl⟩
          have Hz3 := Lib.hid Hc.out.size
          rw [show (((0 : Nat) : Int) - 1) = -1 from rfl]
          go_wp2
          go_loopw [8, 9] (fun s i wr => ∃ k : Nat, k ≤ M ∧ i = .int .i64 k ∧ s = strV ((D.take k).map dgB).reverse ∧ Below w3.heap.size w3 wr) (fun _ i _ => M - (intOf i).toNat)
          case atStart => exact ⟨0, by omega, rfl, rfl, Below.refl _ _⟩
          case round =>
            obtain ⟨k, hk, rfl, rfl, hb⟩ := hrel
            have Hd := Lib.hid hb; clear hb
            by_cases hkM : k < M
            · obtain ⟨bb, oo, rfl, hcell⟩ := (HIv.out.below Hd.out).cells (by omega)
              have hc := hcell k hkM
              clear hcell
              have hd10 := Hlt.out (nth D k) (nth_mem (by rw [← HM.out]; exact hkM))
              have Htk := Lib.hid (show ((D.take (k + 1)).map dgB).reverse = dgB (nth D k) :: ((D.take k).map dgB).reverse from by
                rw [List.take_succ_eq_append_getElem (by rw [← HM.out]; exact hkM), List.map_append, List.reverse_append]
                have e : nth D k = D[k]'(by rw [← HM.out]; exact hkM) := by simp [nth, show k < D.length by rw [← HM.out]; exact hkM]
                rw [e]; rfl)
              have Hsl := Lib.hid (show ((D.take k).map dgB).reverse.length ≤ 100 from by simp; omega)
              generalize nth D k = d at *
              generalize ((D.take k).map dgB).reverse = sp at *
              have hex : (⟨#[48, 49, 50, 51, 52, 53, 54, 55, 56, 57]⟩ : ByteArray).extract d (d + 1) = ⟨#[dgB d]⟩ := digit_cut hd10
              have ha : ∀ W, (Op.stringOp .add ⟨#[dgB d]⟩ ⟨sp.toArray⟩).run Tryz.prog W = .ok (.string ⟨(dgB d :: sp).toArray⟩) W := fun W => run_string_add_lists W [dgB d] sp (by simp) (by have := Hsl.out; omega)
              have hw1 : IntKind.i64.wrap ((d : Int) + 1) = (d : Int) + 1 := by rw [IntKind.wrap_i64]; omega
              have h01 : (0 : Int) ≤ (d : Int) := by omega
              have h02 : (d : Int) ≤ (d : Int) + 1 := by omega
              have h03 : (d : Int) + 1 ≤ 10 := by omega
              have h04 : (k : Int) < (M : Int) := by omega
              go_wp2_with fail
              go_region
              all_goals
                clear ha hex hw1 h01 h02 h03 h04 hc
                go_wp2
                go_roundw
                case rel => exact ⟨k + 1, by omega, by go_num, by rw [Htk.out], by first | exact Hd.out | exact Hd.out.drew⟩
                case measure => simp [intOf]; omega
            · obtain rfl : k = M := by omega
              rw [List.take_of_length_le (by rw [HM.out]; exact Nat.le_refl _)]
              have hbw : Below w.heap.size w wr := Hc.out.trans (Hd.out.mono Hz3.out)
              by_cases hx0 : x = 0
              · have hD : D = [] := Hze.out hx0
                subst hD
                subst hx0
                have Hd0 := Lib.hid Hdx.out
                rw [if_pos rfl] at Hd0
                go_wp2
                go_ret
                exact ⟨by rw [Hd0.out]; rfl, hbw⟩
              · have Hd0 := Lib.hid Hdx.out
                rw [if_neg hx0] at Hd0
                have hnil : (D.map dgB).reverse ≠ [] := by
                  intro h
                  have := congrArg List.length h
                  simp at this
                  exact Hne.out hx0 this
                generalize (D.map dgB).reverse = sp at *
                have hs0 : (sp == []) = false := by rw [beq_eq_false_iff_ne]; exact hnil
                have hse : sp.isEmpty = false := by cases sp <;> simp_all
                go_wp2
                go_ret
                exact ⟨by rw [Hd0.out]; rfl, hbw⟩

end Go.Proofs.YtbiohohclnaocaaGreatDoor
