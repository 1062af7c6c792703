/-
  Walk: kenningref02.double.
-/
import Derived.Test.YtbiohohclnaocaaGreatDoorRgStarts
import Derived.Test.YtbiohohclnaocaaGreatDoorRgTextP
namespace Go.Proofs.YtbiohohclnaocaaGreatDoor
open Go.RowKit
set_option linter.unusedVariables false

/-! Slices of ints that are numbers. -/
def i64C (l : List Nat) : List Value := l.map fun x => Value.int .i64 ((x : Nat) : Int)
theorem i64C_append (a b : List Nat) : i64C (a ++ b) = i64C a ++ i64C b := by simp [i64C]
theorem i64C_length (a : List Nat) : (i64C a).length = a.length := by simp [i64C]
theorem i64C_get (l : List Nat) (i : Nat) (h : i < l.length) : (i64C l)[i]? = some (.int .i64 ((nth l i : Nat) : Int)) := by simp [i64C, nth, h]
theorem i64C_one (l : List Nat) : ∀ u ∈ i64C l, u.oneCell' = true := by
  intro u hu
  simp only [i64C, List.mem_map] at hu
  obtain ⟨x, _, rfl⟩ := hu
  rfl

structure I64s (w : World) (a : Option Addr) (n cap : Nat) (l : List Nat) : Prop where
  len : l.length = n
  room : n ≤ cap
  most : cap ≤ 9223372036854775807
  nilc : a = none → cap = 0
  cells : 0 < n → ∃ b o, a = some ⟨b, o, none⟩ ∧ ∀ i, i < n → w.cell? ⟨b, o + i, none⟩ = some (.int .i64 ((nth l i : Nat) : Int))

theorem I64s.below {w w' : World} {a : Option Addr} {n cap : Nat} {l : List Nat} (h : I64s w a n cap l) (hb : Below w.heap.size w w') : I64s w' a n cap l := by
  refine ⟨h.len, h.room, h.most, h.nilc, fun hn => ?_⟩
  obtain ⟨b, o, ha, hc⟩ := h.cells hn
  refine ⟨b, o, ha, fun i hi => ?_⟩
  have := hc i hi
  exact (hb.cell (p := ⟨b, o + i, none⟩) (cell_lt this)).trans this

theorem i64s_own {w : World} {base n : Nat} {T : TypeId} {v : Value} {l : List Nat} (h : w.ownsRow base T 1 v n (i64C l)) : ∃ a cap, v = .slice a n cap ∧ I64s w a n cap l := by
  have hlen : l.length = n := by have := h.1; rw [i64C_length] at this; omega
  rcases h.2 with ⟨rfl, rfl⟩ | ⟨g, cap, cur, rfl, hg, hh, hnc, hcm, _⟩
  · exact ⟨none, 0, rfl, hlen, by omega, by omega, fun _ => rfl, fun h => by omega⟩
  · refine ⟨_, _, rfl, hlen, hnc, by unfold maxLen at hcm; omega, (by intro h; cases h), fun hn => ⟨g, 0, rfl, fun i hi => ?_⟩⟩
    have hc := h.cells (g := g) rfl i (.int .i64 ((nth l i : Nat) : Int)) (i64C_get l i (by omega))
    rw [add_at] at hc
    exact hc

theorem Tryz.info_int : (Tryz.prog.info? 3).map (fun i => (i.zero, i.size, i.bytes)) = some (some (.int .i64 0), 1, 8) := by kernel_rfl

theorem run_append_i64 {w : World} (base : Nat) (v : Value) (n : Nat) (xs : List Nat) (hown : w.ownsRow base 3 1 v n (i64C xs)) (A : Option Addr) (m c : Nat) (l : List Nat) (hr : Rd w 1 A m (i64C l)) (hb : n + m ≤ 1000000) (hbase : base ≤ w.heap.size) :
    ∃ v' w', (Builtin.append_ #[96, 96] 96 #[v, .slice A m c]).run Tryz.prog w = .ok v' w' ∧ w'.ownsRow base 3 1 v' (n + m) (i64C (xs ++ l)) ∧ w.grownBy w' v.ownBlock := by
  rw [i64C_append]
  exact run_append_rd base _ _ _ _ 1 8 Tryz.underlying96 Tryz.info_int rfl (by omega) v n _ hown A m c _ hr (i64C_one l) (by unfold maxLen; omega) (by omega) hbase

theorem dblL_len : ∀ (l : List Nat) (b : Nat), (dblL l b).length ≤ l.length + 1
  | [], b => by unfold dblL; split <;> simp
  | d :: l, b => by
    have := dblL_len l ((2 * d + b) / 10)
    simp only [dblL, List.length_cons]
    omega

theorem drop_nth {l : List Nat} {k : Nat} (h : k < l.length) : l.drop k = nth l k :: l.drop (k + 1) := by
  rw [List.drop_eq_getElem_cons h]
  simp [nth, h]

set_option maxRecDepth 20000 in
set_option maxHeartbeats 2000000 in
theorem refDouble_any (a : Option Addr) (n cap b : Nat) (D : List Nat) (w : World) (hI : I64s w a n cap D) (hD : ∀ d ∈ D, d < 10) (hb1 : b ≤ 1) (hn : n ≤ 1000) :
    Calls Tryz.prog 61 #[.slice a n cap, .int .i64 b] w fun e w' => (∃ v, e = .returned v ∧ w'.ownsRow w.heap.size 3 1 v (dblL D b).length (i64C (dblL D b))) ∧ Below w.heap.size w w' := by
  have HI := Lib.hid hI
  have Hl := Lib.hid hI.len
  have HD := Lib.hid hD
  clear hI hD
  go_enter Tryz.func61, Tryz.ntmps61
  go_wp2
  go_loopw [1, 5, 6, 7] (fun bv v i _ wr => ∃ (k b' : Nat) (pre : List Nat), k ≤ n ∧ i = .int .i64 k ∧ bv = .int .i64 b' ∧ b' ≤ 1 ∧ Below w.heap.size w wr ∧ Hid (pre.length = k ∧ dblL D b = pre ++ dblL (D.drop k) b' ∧ wr.ownsRow w.heap.size 3 1 v k (i64C pre))) (fun _ _ i _ _ => n - (intOf i).toNat)
  case atStart => exact ⟨0, b, [], by omega, rfl, rfl, hb1, Below.refl _ _, rfl, rfl, World.ownsRow_nil _ _ _ _⟩
  case round =>
    obtain ⟨k, b', pre, hk, rfl, rfl, hb', hb, ho⟩ := hrel
    have Hb := Lib.hid hb; clear hb
    by_cases hkn : k < n
    · obtain ⟨bb, oo, rfl, hcell⟩ := (HI.out.below Hb.out).cells (by omega)
      have hc := hcell k hkn
      clear hcell
      have hkl : k < D.length := by rw [Hl.out]; exact hkn
      have hd10 := HD.out (nth D k) (nth_mem hkl)
      have Hdr := Lib.hid (drop_nth hkl)
      clear hkl
      generalize nth D k = d at *
      have Ho := Lib.hid ho.out.2.2
      obtain ⟨r10, hr10⟩ : ∃ r, r = (2 * d + b') % 10 := ⟨_, rfl⟩
      obtain ⟨q10, hq10⟩ : ∃ r, r = (2 * d + b') / 10 := ⟨_, rfl⟩
      have Hdbl := Lib.hid (show dblL (d :: D.drop (k + 1)) b' = r10 :: dblL (D.drop (k + 1)) q10 from by rw [hr10, hq10]; rfl)
      have Hq := Lib.hid (show q10 ≤ 1 by omega)
      have he1 : (2 * (d : Int) + (b' : Int)) % 10 = (r10 : Int) := by omega
      have he2 : (2 * (d : Int) + (b' : Int)) / 10 = (q10 : Int) := by omega
      have hw1 : IntKind.i64.wrap (2 * (d : Int)) = 2 * (d : Int) := by rw [IntKind.wrap_i64]; omega
      have hw2 : IntKind.i64.wrap (2 * (d : Int) + (b' : Int)) = 2 * (d : Int) + (b' : Int) := by rw [IntKind.wrap_i64]; omega
      clear hr10 hq10
      have HA := Lib.hid (Hb.out.alloc Hb.out.size (.cells #[.int .i64 (r10 : Int)] 3))
      obtain ⟨v', w6, hr, ho6, hg6⟩ := run_append_i64 w.heap.size u5 k pre (Ho.out.alloc (.cells #[.int .i64 (r10 : Int)] 3)) (some ⟨wr.heap.size, 0, none⟩) 1 1 [r10] (rd_block (heap_at_new _ _ _ rfl) rfl rfl) (by omega) (by have := Hb.out.size; simp; omega)
      have Ho6 := Lib.hid ho6; clear ho6
      have Hb6 := Lib.hid (HA.out.grown hg6 (by have := Hb.out.size; simp; omega) (fun k hk => (Ho.out.lt k hk).1))
      clear hg6
      go_wp2_with (at_builtin; refine wpList_append_hr _ _ 96 rfl rfl _ _ rfl rfl _ _ hr ?_)
      go_roundw
      case rel => exact ⟨k + 1, q10, pre ++ [r10], by omega, by go_num, by rw [he2], Hq.out, Hb6.out, by simp [ho.out.1], by
        rw [ho.out.2.1, Hdr.out, Hdbl.out, List.append_assoc]; rfl, Ho6.out⟩
      case measure => simp [intOf]; omega
    · obtain rfl : k = n := by omega
      have Hend := Lib.hid (show dblL D b = pre ++ dblL [] b' from by rw [ho.out.2.1, List.drop_of_length_le (by rw [Hl.out]; exact Nat.le_refl _)])
      have Ho := Lib.hid ho.out.2.2
      have Hpl := Lib.hid ho.out.1
      clear ho
      by_cases hb0 : b' = 0
      · subst hb0
        have e : dblL D b = pre := by rw [Hend.out]; simp [dblL]
        have He := Lib.hid e; clear e
        rw [show ((0 : Nat) : Int) = 0 from rfl]
        go_wp2
        go_ret
        refine ⟨⟨_, rfl, ?_⟩, Hb.out⟩
        rw [He.out, Hpl.out]
        exact Ho.out
      · obtain rfl : b' = 1 := by omega
        have He := Lib.hid (show dblL D b = pre ++ [1] from by rw [Hend.out]; simp [dblL])
        have HA := Lib.hid (Hb.out.alloc Hb.out.size (.cells #[.int .i64 1] 3))
        obtain ⟨v', w6, hr, ho6, hg6⟩ := run_append_i64 w.heap.size u5 k pre (Ho.out.alloc (.cells #[.int .i64 1] 3)) (some ⟨wr.heap.size, 0, none⟩) 1 1 [1] (rd_block (heap_at_new _ _ _ rfl) rfl rfl) (by omega) (by have := Hb.out.size; simp; omega)
        have Ho6 := Lib.hid ho6; clear ho6
        have Hb6 := Lib.hid (HA.out.grown hg6 (by have := Hb.out.size; simp; omega) (fun k hk => (Ho.out.lt k hk).1))
        clear hg6
        rw [show ((1 : Nat) : Int) = 1 from rfl]
        go_wp2_with (at_builtin; refine wpList_append_hr _ _ 96 rfl rfl _ _ rfl rfl _ _ hr ?_)
        go_ret
        refine ⟨⟨_, rfl, ?_⟩, Hb6.out⟩
        rw [He.out, List.length_append, Hpl.out]
        exact Ho6.out

end Go.Proofs.YtbiohohclnaocaaGreatDoor
