/-
  Walk: kenningref04.Split.
-/
import Derived.Test.YtbiohohclnaocaaGreatDoorRgDigits
import Derived.Test.YtbiohohclnaocaaGreatDoorRgText
namespace Go.Proofs.YtbiohohclnaocaaGreatDoor
open Go.RowKit
set_option linter.unusedVariables false

def strC (l : List Txt) : List Value := l.map strV
theorem strC_append (a b : List Txt) : strC (a ++ b) = strC a ++ strC b := by simp [strC]
theorem strC_length (a : List Txt) : (strC a).length = a.length := by simp [strC]
theorem strC_one (l : List Txt) : ∀ u ∈ strC l, u.oneCell' = true := by
  intro u hu
  simp only [strC, List.mem_map] at hu
  obtain ⟨x, _, rfl⟩ := hu
  rfl

theorem run_append_strs {w : World} (base : Nat) (v : Value) (n : Nat) (xs : List Txt) (hown : w.ownsRow base 9 1 v n (strC xs)) (A : Option Addr) (m c : Nat) (l : List Txt) (hr : Rd w 1 A m (strC l)) (hb : n + m ≤ 2000000) (hbase : base ≤ w.heap.size) :
    ∃ v' w', (Builtin.append_ #[60, 60] 60 #[v, .slice A m c]).run Tryz.prog w = .ok v' w' ∧ w'.ownsRow base 9 1 v' (n + m) (strC (xs ++ l)) ∧ w.grownBy w' v.ownBlock := by
  rw [strC_append]
  exact run_append_rd base _ _ _ _ 1 16 Tryz.underlying60 Tryz.info_str rfl (by omega) v n _ hown A m c _ hr (strC_one l) (by unfold maxLen; omega) (by omega) hbase

theorem strs_own {w : World} {base n : Nat} {T : TypeId} {v : Value} {l : List Txt} (h : w.ownsRow base T 1 v n (strC l)) : ∃ a cap, v = .slice a n cap ∧ Strs w a n cap l := by
  have hlen : l.length = n := by have := h.1; rw [strC_length] at this; omega
  rcases h.2 with ⟨rfl, rfl⟩ | ⟨g, cap, cur, rfl, hg, hh, hnc, hcm, _⟩
  · exact ⟨none, 0, rfl, hlen, by omega, by omega, fun _ => rfl, fun h => by omega⟩
  · refine ⟨_, _, rfl, hlen, hnc, by unfold maxLen at hcm; omega, (by intro h; cases h), fun hn => ⟨g, 0, rfl, fun i hi => ?_⟩⟩
    have e : (strC l)[i]? = some (strV (nthT l i)) := by rw [nthT_get (by omega)]; simp [strC, show i < l.length by omega]
    have hc := h.cells (g := g) rfl i _ e
    rw [add_at] at hc
    exact hc

theorem cut_bytes (s : Txt) (f k : Nat) (h1 : f ≤ k) (h2 : k ≤ s.length) : (⟨s.toArray⟩ : ByteArray).extract f k = ⟨((s.drop f).take (k - f)).toArray⟩ := by
  apply ByteArray.ext
  apply Array.toList_inj.1
  rw [Lib.extract_data]

theorem pcs_last (c : UInt8) (s : Txt) (f : Nat) (h : ∀ j, f ≤ j → j < s.length → nthB s j ≠ c) : pcs c (s.drop f) = [s.drop f] := pcs_none fun b hb => by
  obtain ⟨i, hi, rfl⟩ := List.getElem_of_mem hb
  rw [List.length_drop] at hi
  have := h (f + i) (by omega) (by omega)
  rw [nthB_get (by omega)] at this
  simpa using this

theorem pcs_here (c : UInt8) (s : Txt) (f k : Nat) (h1 : f ≤ k) (h2 : k < s.length) (hk : nthB s k = c) (h : ∀ j, f ≤ j → j < k → nthB s j ≠ c) : pcs c (s.drop f) = (s.drop f).take (k - f) :: pcs c (s.drop (k + 1)) := by
  have e : s.drop f = (s.drop f).take (k - f) ++ c :: s.drop (k + 1) := by
    conv => lhs; rw [← List.take_append_drop (k - f) (s.drop f)]
    congr 1
    rw [List.drop_drop, show f + (k - f) = k by omega, List.drop_eq_getElem_cons h2, ← nthB_get h2, hk]
  conv => lhs; rw [e]
  refine pcs_cut _ fun x hx => ?_
  obtain ⟨i, hi, rfl⟩ := List.getElem_of_mem hx
  rw [List.length_take, List.length_drop] at hi
  have := h (f + i) (by omega) (by omega)
  rw [nthB_get (by omega)] at this
  simpa using this

set_option maxRecDepth 20000 in
set_option maxHeartbeats 4000000 in
theorem refSplit_any (s : Txt) (c : UInt8) (hs : s.length ≤ 1000000) (w : World) :
    Calls Tryz.prog 51 #[strV s, .int .u8 (c.toNat : Nat)] w fun e w' => (∃ v, e = .returned v ∧ w'.ownsRow w.heap.size 9 1 v (pcs c s).length (strC (pcs c s))) ∧ Below w.heap.size w w' := by
  go_enter Tryz.func51, Tryz.ntmps51
  go_wp2
  go_loopw [5, 6, 7] (fun v fr i wr => ∃ (k f : Nat) (P : List Txt), k ≤ s.length + 1 ∧ i = .int .i64 k ∧ fr = .int .i64 f ∧ f ≤ k ∧ Below w.heap.size w wr ∧ Hid (P.length ≤ k ∧ wr.ownsRow w.heap.size 9 1 v P.length (strC P) ∧ (k ≤ s.length → pcs c s = P ++ pcs c (s.drop f) ∧ ∀ j, f ≤ j → j < k → nthB s j ≠ c) ∧ (k = s.length + 1 → P = pcs c s))) (fun _ _ i _ => s.length + 1 - (intOf i).toNat)
  case atStart => exact ⟨0, 0, [], by omega, rfl, rfl, Nat.le_refl _, Below.refl _ _, Nat.le_refl _, World.ownsRow_nil _ _ _ _, fun _ => ⟨rfl, fun j h1 h2 => by omega⟩, fun h => by omega⟩
  case round =>
    obtain ⟨k, f, P, hk, rfl, rfl, hfk, hb, ht⟩ := hrel
    have Hb := Lib.hid hb; clear hb
    by_cases hkn : k ≤ s.length
    · have hks : (k : Int) ≤ (s.length : Int) := by omega
      have Hp := Lib.hid (ht.out.2.2.1 hkn)
      have Ho := Lib.hid ht.out.2.1
      have Hl := Lib.hid ht.out.1
      clear ht
      have hPl := Hl.out
      have hex : (⟨s.toArray⟩ : ByteArray).extract f k = ⟨((s.drop f).take (k - f)).toArray⟩ := cut_bytes s f k hfk (by omega)
      obtain ⟨pc, hpc⟩ : ∃ pc, pc = (s.drop f).take (k - f) := ⟨_, rfl⟩
      rw [← hpc] at hex
      have Hpc := Lib.hid hpc; clear hpc
      have HA := Lib.hid (Hb.out.alloc Hb.out.size (.cells #[strV pc] 9))
      obtain ⟨v', w6, hr, ho6, hg6⟩ := run_append_strs w.heap.size u5 P.length P (Ho.out.alloc (.cells #[strV pc] 9)) (some ⟨wr.heap.size, 0, none⟩) 1 1 [pc] (rd_block (heap_at_new _ _ _ rfl) rfl rfl) (by omega) (by have := Hb.out.size; simp; omega)
      have Ho6 := Lib.hid (show w6.ownsRow w.heap.size 9 1 v' (P ++ [pc]).length (strC (P ++ [pc])) from by rw [List.length_append]; exact ho6)
      have Hb6 := Lib.hid (HA.out.grown hg6 (by have := Hb.out.size; simp; omega) (fun k hk => (Ho.out.lt k hk).1))
      clear hg6 ho6
      have hw1 : IntKind.i64.wrap ((k : Int) + 1) = (k : Int) + 1 := by rw [IntKind.wrap_i64]; omega
      have h0f : (0 : Int) ≤ (f : Int) := by omega
      have hfi : (f : Int) ≤ (k : Int) := by omega
      by_cases hke : k = s.length
      · subst hke
        have Hfin := Lib.hid (show P ++ [pc] = pcs c s from by
          rw [Hp.out.1, pcs_last c s f (fun j h1 h2 => Hp.out.2 j h1 (by omega)), Hpc.out, List.take_of_length_le (by rw [List.length_drop]; omega)])
        go_wp2_with (at_builtin; refine wpList_append_hr _ _ 60 rfl rfl _ _ rfl rfl _ _ hr ?_)
        go_roundw
        case rel => exact ⟨s.length + 1, s.length + 1, P ++ [pc], by omega, by go_num, by go_num, Nat.le_refl _, Hb6.out, by rw [List.length_append]; exact Nat.add_le_add_right Hl.out 1, Ho6.out, fun h => by omega, fun _ => Hfin.out⟩
        case measure => simp [intOf]
      · have heq : ((k : Int) == (s.length : Int)) = false := by rw [beq_eq_false_iff_ne]; omega
        have hkl : k < s.length := by omega
        obtain ⟨x, hx⟩ : ∃ x, x = nthB s k := ⟨_, rfl⟩
        have hix : ∀ h : k < (⟨s.toArray⟩ : ByteArray).size, (⟨s.toArray⟩ : ByteArray)[k]'h = x := fun h => by rw [hx, nthB_get hkl]; rfl
        by_cases hxc : x = c
        · have hxe : ((x.toNat : Int) == (c.toNat : Int)) = true := by rw [hxc]; simp
          have Hnx := Lib.hid (show pcs c s = (P ++ [pc]) ++ pcs c (s.drop (k + 1)) from by
            rw [Hp.out.1, pcs_here c s f k hfk hkl (by rw [← hx, hxc]) Hp.out.2, Hpc.out, List.append_assoc]; rfl)
          clear hxc hx
          go_wp2_with (at_builtin; refine wpList_append_hr _ _ 60 rfl rfl _ _ rfl rfl _ _ hr ?_)
          go_roundw
          case rel => exact ⟨k + 1, k + 1, P ++ [pc], by omega, by go_num, by go_num, Nat.le_refl _, Hb6.out, by rw [List.length_append]; exact Nat.add_le_add_right Hl.out 1, Ho6.out, fun _ => ⟨Hnx.out, fun j h1 h2 => by omega⟩, fun h => by omega⟩
          case measure => simp [intOf]; omega
        · have hxe : ((x.toNat : Int) == (c.toNat : Int)) = false := by
            rw [beq_eq_false_iff_ne]
            intro h
            exact hxc (UInt8.toNat_inj.1 (by omega))
          have Hnx := Lib.hid (show nthB s k ≠ c from by rw [← hx]; exact hxc)
          clear hxc hx hr Ho6 Hb6 HA hex
          go_wp2
          go_roundw
          case rel => exact ⟨k + 1, f, P, by omega, by go_num, rfl, by omega, Hb.out, Nat.le_succ_of_le Hl.out, Ho.out, fun _ => ⟨Hp.out.1, fun j h1 h2 => by
            by_cases e : j = k
            · subst e; exact Hnx.out
            · exact Hp.out.2 j h1 (by omega)⟩, fun h => by omega⟩
          case measure => simp [intOf]; omega
    · obtain rfl : k = s.length + 1 := by omega
      have hgt : ¬ ((s.length : Int) + 1 ≤ (s.length : Int)) := by omega
      have Hfin := Lib.hid (ht.out.2.2.2 rfl)
      have Ho := Lib.hid ht.out.2.1
      clear ht
      go_wp2
      go_ret
      exact ⟨⟨_, rfl, by rw [← Hfin.out]; exact Ho.out⟩, Hb.out⟩

end Go.Proofs.YtbiohohclnaocaaGreatDoor
