/-
  Walk: kenningref04.Value.
-/
import Derived.Test.YtbiohohclnaocaaGreatDoorRgDigits
import Derived.Test.YtbiohohclnaocaaGreatDoorRgPiece
namespace Go.Proofs.YtbiohohclnaocaaGreatDoor
open Go.RowKit
set_option linter.unusedVariables false

theorem drop_nthB {l : Txt} {k : Nat} (h : k < l.length) : l.drop k = nthB l k :: l.drop (k + 1) := by
  rw [List.drop_eq_getElem_cons h, nthB_get h]

theorem quo_test {acc d : Nat} (hd : d ≤ 9) : (18446744073709551615 - d) / 10 < acc ↔ 18446744073709551615 < 10 * acc + d := by omega

def valV (o : Option Nat) : Value := match o with
  | some v => .tuple #[.int .u64 ((v : Nat) : Int), .bool true]
  | none => .tuple #[.int .u64 0, .bool false]

set_option maxRecDepth 20000 in
set_option maxHeartbeats 2000000 in
theorem refValue_any (s : Txt) (hs : s.length ≤ 1000000) (hall : s.all isD = true) (w : World) :
    Calls Tryz.prog 53 #[strV s] w fun e w' => e = .returned (valV (numT 0 s)) ∧ Below w.heap.size w w' := by
  obtain ⟨n, hn⟩ : ∃ n, n = s.length := ⟨_, rfl⟩
  have Hall := Lib.hid hall
  clear hall
  go_enter Tryz.func53, Tryz.ntmps53
  go_wp2
  go_loopw [4, 5, 6] (fun v i _ wr => ∃ k acc : Nat, k ≤ n ∧ i = .int .i64 k ∧ v = .int .u64 acc ∧ Below w.heap.size w wr ∧ Hid (acc < 18446744073709551616 ∧ numT 0 s = numT acc (s.drop k))) (fun _ i _ _ => n - (intOf i).toNat)
  case atStart => exact ⟨0, 0, by omega, rfl, rfl, Below.refl _ _, by omega, rfl⟩
  case round =>
    obtain ⟨k, acc, hk, rfl, rfl, hb, ht⟩ := hrel
    have Hb := Lib.hid hb; clear hb
    by_cases hkn : k < n
    · have hkl : k < s.length := by omega
      have Hdr := Lib.hid (drop_nthB hkl)
      obtain ⟨c, hc⟩ : ∃ c, c = nthB s k := ⟨_, rfl⟩
      have hix : ∀ h : k < (⟨s.toArray⟩ : ByteArray).size, (⟨s.toArray⟩ : ByteArray)[k]'h = c := fun h => by rw [hc, nthB_get hkl]; rfl
      rw [← hc] at Hdr
      have hcd : isD c = true := by rw [hc, nthB_get hkl]; exact List.all_eq_true.1 Hall.out _ (List.getElem_mem _)
      have hcd2 : 48 ≤ c.toNat ∧ c.toNat ≤ 57 := by
        unfold isD at hcd
        simpa using hcd
      clear hc hcd
      obtain ⟨d, hd⟩ : ∃ d, d = c.toNat - 48 := ⟨_, rfl⟩
      have hd9 : d ≤ 9 := by omega
      have Hstep := Lib.hid (show numT acc (c :: s.drop (k + 1)) = if 18446744073709551615 < 10 * acc + d then none else numT (10 * acc + d) (s.drop (k + 1)) from by rw [hd]; rfl)
      have hw1 : IntKind.u8.wrap ((c.toNat : Int) - 48) = (d : Int) := by rw [IntKind.wrap_u8]; omega
      have hw1b : IntKind.u64.wrap (d : Int) = (d : Int) := by rw [IntKind.wrap_u64]; omega
      obtain ⟨md, hmd⟩ : ∃ md, md = 18446744073709551615 - d := ⟨_, rfl⟩
      have hw2 : IntKind.u64.wrap (18446744073709551615 - (d : Int)) = (md : Int) := by rw [IntKind.wrap_u64]; omega
      obtain ⟨q, hq⟩ : ∃ q, q = md / 10 := ⟨_, rfl⟩
      have hw3 : (md : Int) / 10 = (q : Int) := by omega
      have hwq : IntKind.u64.wrap (q : Int) = (q : Int) := by rw [IntKind.wrap_u64]; omega
      have Htest := Lib.hid (show q < acc ↔ 18446744073709551615 < 10 * acc + d from by rw [hq, hmd]; exact quo_test hd9)
      have hacc := ht.out.1
      have Ht := Lib.hid ht.out.2
      by_cases hqa : q < acc
      · have Hr := Lib.hid (show numT 0 s = none from by rw [Ht.out, Hdr.out, Hstep.out, if_pos (Htest.out.1 hqa)])
        have hdd : decide ((q : Int) < (acc : Int)) = true := by rw [decide_eq_true_iff]; omega
        have hdn : decide (q < acc) = true := decide_eq_true hqa
        clear hmd hq hd hcd2 hacc hqa
        go_wp2_with (go_at_call 72; refine (refMax_any _).mono ?_; rintro e w1 ⟨rfl, rfl⟩)
        refine bodyPost_ret (v := .tuple #[.int .u64 0, .bool false]) (by simp [results, Tryz.results53, go_sem]) rfl ?_
        exact ⟨by rw [Hr.out]; rfl, Hb.out⟩
      · have Hno := Lib.hid (fun h => hqa (Htest.out.2 h))
        have Hr := Lib.hid (show numT 0 s = numT (10 * acc + d) (s.drop (k + 1)) from by rw [Ht.out, Hdr.out, Hstep.out, if_neg Hno.out])
        obtain ⟨a2, ha2⟩ : ∃ a2, a2 = 10 * acc + d := ⟨_, rfl⟩
        have hle : ¬ 18446744073709551615 < 10 * acc + d := Hno.out
        have hw4 : IntKind.u64.wrap (10 * (acc : Int)) = 10 * (acc : Int) := by rw [IntKind.wrap_u64]; omega
        have hw5 : IntKind.u64.wrap (10 * (acc : Int) + (d : Int)) = (a2 : Int) := by rw [IntKind.wrap_u64]; omega
        have Ha2 := Lib.hid (show a2 < 18446744073709551616 by omega)
        rw [← ha2] at Hr
        have hdd : decide ((q : Int) < (acc : Int)) = false := by rw [decide_eq_false_iff_not]; omega
        have hdn : decide (q < acc) = false := decide_eq_false hqa
        clear hmd hq hd hcd2 hacc hqa ha2 hle Hno
        go_wp2_with (go_at_call 72; refine (refMax_any _).mono ?_; rintro e w1 ⟨rfl, rfl⟩)
        go_roundw
        case rel => exact ⟨k + 1, a2, by omega, by go_num, rfl, Hb.out, Ha2.out, Hr.out⟩
        case measure => simp [intOf]; omega
    · obtain rfl : k = n := by omega
      have Hr := Lib.hid (show numT 0 s = some acc from by rw [ht.out.2, List.drop_of_length_le (by omega)]; rfl)
      go_wp2_with fail
      refine bodyPost_ret (v := .tuple #[.int .u64 acc, .bool true]) (by simp [results, Tryz.results53, go_sem]) rfl ?_
      exact ⟨by rw [Hr.out]; rfl, Hb.out⟩

end Go.Proofs.YtbiohohclnaocaaGreatDoor
