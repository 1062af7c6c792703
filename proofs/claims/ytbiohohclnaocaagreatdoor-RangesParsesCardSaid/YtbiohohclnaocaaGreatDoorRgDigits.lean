/-
  Walks: kenningref04.Digits, Value, Split.
-/
import Derived.Test.YtbiohohclnaocaaGreatDoorRgEach
namespace Go.Proofs.YtbiohohclnaocaaGreatDoor
open Go.RowKit
set_option linter.unusedVariables false

def nthB (l : Txt) (k : Nat) : UInt8 := l.getD k 0
theorem nthB_get {l : Txt} {k : Nat} (h : k < l.length) : nthB l k = l[k] := by simp [nthB, h]

set_option maxRecDepth 20000 in
set_option maxHeartbeats 2000000 in
theorem refDigits_any (s : Txt) (hs : s.length ≤ 1000000) (w : World) :
    Calls Tryz.prog 52 #[strV s] w fun e w' => e = .returned (.bool (digT s)) ∧ Below w.heap.size w w' := by
  obtain ⟨n, hn⟩ : ∃ n, n = s.length := ⟨_, rfl⟩
  go_enter Tryz.func52, Tryz.ntmps52
  go_wp2
  go_loopw [3] (fun i wr => ∃ k : Nat, k ≤ n ∧ i = .int .i64 k ∧ Below w.heap.size w wr ∧ Hid (∀ j, j < k → isD (nthB s j) = true)) (fun i _ => n - (intOf i).toNat)
  case atStart => exact ⟨0, by omega, rfl, Below.refl _ _, fun j h => by omega⟩
  case round =>
    obtain ⟨k, hk, rfl, hb, ht⟩ := hrel
    have Hb := Lib.hid hb; clear hb
    by_cases hkn : k < n
    · have hkl : k < s.length := by omega
      obtain ⟨c, hc⟩ : ∃ c, c = nthB s k := ⟨_, rfl⟩
      have hix : ∀ h : k < (⟨s.toArray⟩ : ByteArray).size, (⟨s.toArray⟩ : ByteArray)[k]'h = c := fun h => by rw [hc, nthB_get hkl]; rfl
      have Hc := Lib.hid hc
      clear hc
      have Hno := Lib.hid (show isD c = false → digT s = false from fun h => by
        have : s.all isD = false := by
          rw [List.all_eq_false]
          exact ⟨s[k], List.getElem_mem _, by rw [← nthB_get hkl, ← Hc.out, h]; simp⟩
        unfold digT
        rw [this]
        simp)
      by_cases h1 : c.toNat < 48
      · have Hr := Lib.hid (Hno.out (by unfold isD; simp; omega))
        have h1' : (c.toNat : Int) < 48 := by omega
        go_wp2_with fail
        go_ret
        exact ⟨by rw [Hr.out]; rfl, Hb.out⟩
      · by_cases h2 : 57 < c.toNat
        · have Hr := Lib.hid (Hno.out (by unfold isD; simp; omega))
          have h1' : ¬ (c.toNat : Int) < 48 := by omega
          have h2' : (57 : Int) < (c.toNat : Int) := by omega
          go_wp2_with fail
          go_ret
          exact ⟨by rw [Hr.out]; rfl, Hb.out⟩
        · have Hr := Lib.hid (show isD (nthB s k) = true from by rw [← Hc.out]; unfold isD; simp; omega)
          have h1' : ¬ (c.toNat : Int) < 48 := by omega
          have h2' : ¬ (57 : Int) < (c.toNat : Int) := by omega
          go_wp2_with fail
          go_roundw
          case rel => exact ⟨k + 1, by omega, by go_num, Hb.out, fun j hj => by
            rcases Nat.lt_or_ge j k with h | h
            · exact ht.out j h
            · rw [show j = k by omega]; exact Hr.out⟩
          case measure => simp [intOf]; omega
    · obtain rfl : k = n := by omega
      have hall := Lib.hid (show s.all isD = true from List.all_eq_true.2 fun x hx => by
        obtain ⟨i, hi, rfl⟩ := List.getElem_of_mem hx
        rw [← nthB_get hi]
        exact ht.out i (by omega))
      clear ht
      rcases s with _ | ⟨c, r⟩
      · subst hn
        go_wp2_with fail
        go_ret
        exact ⟨rfl, Hb.out⟩
      · have hle : k = r.length + 1 := by rw [hn]; rfl
        by_cases hc : c = 48
        · subst hc
          rcases r with _ | ⟨d, r⟩
          · subst hn
            have Hd := Lib.hid (show digT [48] = true from rfl)
            go_wp2_with fail
            go_ret
            exact ⟨rfl, Hb.out⟩
          · have Hd := Lib.hid (show digT (48 :: d :: r) = false from by unfold digT; simp)
            go_wp2_with fail
            go_ret
            exact ⟨by rw [Hd.out]; rfl, Hb.out⟩
        · have hcn : ((c.toNat : Int) != 48) = true := by
            rw [bne_iff_ne]
            intro h
            exact hc (UInt8.toNat_inj.1 (by show c.toNat = 48; omega))
          have Hd := Lib.hid (show digT (c :: r) = true from by unfold digT; rw [hall.out]; simp [hc])
          have hix : ∀ h : 0 < (⟨(c :: r).toArray⟩ : ByteArray).size, (⟨(c :: r).toArray⟩ : ByteArray)[0]'h = c := fun h => rfl
          go_wp2_with fail
          go_ret
          exact ⟨by rw [Hd.out]; rfl, Hb.out⟩

end Go.Proofs.YtbiohohclnaocaaGreatDoor
