/-
  Walk: ranges.Text.
-/
import Derived.Test.YtbiohohclnaocaaGreatDoorRgDec
import Derived.Test.YtbiohohclnaocaaGreatDoorRgTextQ
import Derived.Test.YtbiohohclnaocaaGreatDoorRgStarts
namespace Go.Proofs.YtbiohohclnaocaaGreatDoor
open Go.RowKit
set_option linter.unusedVariables false

theorem Tryz.info_str : (Tryz.prog.info? 9).map (fun i => (i.zero, i.size, i.bytes)) = some (some (.string ByteArray.empty), 1, 16) := by kernel_rfl

/-- make([]string, n). -/
theorem run_make_str (w : World) (base n : Nat) (hn : n ≤ 1000000) (hb : base ≤ w.heap.size) :
    ∃ w' xs, (Instr.makeSlice 60 (.int .i64 (n : Int)) (.int .i64 (n : Int))).run Tryz.prog w = .ok (.slice (some ⟨w.heap.size, 0, none⟩) n n) w' ∧ w'.ownsRow base 9 1 (.slice (some ⟨w.heap.size, 0, none⟩) n n) n xs ∧ Below w.heap.size w w' := by
  obtain ⟨i, hi, hz⟩ := Option.map_eq_some_iff.1 Tryz.info_str
  simp only [Prod.mk.injEq] at hz
  obtain ⟨h1, h2, h3⟩ := hz
  obtain ⟨w', hr, ho, hg⟩ := run_make_full (P := Tryz.prog) w base 60 9 i _ 1 Tryz.underlying60 hi h1 h2 .i64 .i64 n (by rw [h3]; omega) (by unfold maxLen; omega) hb
  exact ⟨w', _, hr, ho, (Below.refl _ _).grown hg (Nat.le_refl _) (by intro k h; cases h)⟩

theorem set_done {xs : List Value} {f : Nat → Value} {k : Nat} (h : ∀ i, i < k → xs[i]? = some (f i)) (hk : k < xs.length) : ∀ i, i < k + 1 → (xs.set k (f k))[i]? = some (f i) := by
  intro i hi
  by_cases e : i = k
  · subst e; rw [List.getElem?_set_self hk]
  · rw [List.getElem?_set_ne (by omega)]; exact h i (by omega)

theorem dec_len {n : Nat} (h : n < 18446744073709551616) : (dec n).length ≤ 20 := by
  rw [dec_asc]
  split
  · simp
  · have := decAsc_len 20 n (by omega)
    simpa using this

theorem ivT_len {s : Iv} (h : s.1 < 18446744073709551616 ∧ s.2 < 18446744073709551616) : (ivT s).length ≤ 41 := by
  have h1 := dec_len h.1
  have h2 := dec_len h.2
  unfold ivT
  split
  · omega
  · simp only [List.length_append, List.length_cons]; omega

theorem join_len : ∀ {L : List Txt}, (∀ t ∈ L, t.length ≤ 41) → (Lib.join L [44]).length ≤ L.length * 42
  | [], _ => by simp [Lib.join]
  | [t], h => by
    have := h t (by simp)
    rw [Lib.join_one]
    simp only [List.length_cons, List.length_nil]
    omega
  | t :: u :: L, h => by
    have h1 := h t (by simp)
    have h2 := join_len (L := u :: L) (fun x hx => h x (List.mem_cons_of_mem _ hx))
    have e : Lib.join (t :: u :: L) [44] = t ++ [44] ++ Lib.join (u :: L) [44] := by simp [Lib.join]
    rw [e]
    simp only [List.length_append, List.length_cons, List.length_nil] at h2 ⊢
    omega

set_option maxRecDepth 20000 in
set_option maxHeartbeats 4000000 in
theorem text_any (a : Option Addr) (n cap : Nat) (l : List Iv) (w : World) (hI : Ivs w a n cap l) (hT : Tens w) (hn : n ≤ 10000) :
    Calls Tryz.prog 16 #[.slice a n cap] w fun e w' => e = .returned (strV (textL l)) ∧ Below w.heap.size w w' := by
  have HI := Lib.hid hI
  have Hl := Lib.hid hI.len
  have HT := Lib.hid hT
  clear hI hT
  by_cases hn0 : n = 0
  · subst hn0
    obtain rfl : l = [] := List.eq_nil_of_length_eq_zero Hl.out
    go_enter Tryz.func16, Tryz.ntmps16
    go_wp2
    go_ret
    exact ⟨rfl, Below.refl _ _⟩
  · have hne : ((n : Int) == 0) = false := by rw [beq_eq_false_iff_ne]; omega
    obtain ⟨w1, xs1, hr1, ho1, hb1⟩ := run_make_str w w.heap.size n (by omega) (Nat.le_refl _)
    have Ho1 := Lib.hid ho1
    have Hb1 := Lib.hid hb1
    clear ho1 hb1
    go_enter Tryz.func16, Tryz.ntmps16
    go_wp2
    clear hr1 hne
    go_loopw [4, 5, 14] (fun _ _ i wr => ∃ k : Nat, k ≤ n ∧ i = .int .i64 k ∧ Below w.heap.size w wr ∧ Hid (∃ xs, wr.ownsRow w.heap.size 9 1 (.slice (some ⟨w.heap.size, 0, none⟩) n n) n xs ∧ ∀ i, i < k → xs[i]? = some (strV (ivT (nthI l i))))) (fun _ _ i _ => n - (intOf i).toNat)
    case atStart => exact ⟨0, by omega, rfl, Hb1.out, xs1, Ho1.out, fun i h => by omega⟩
    case round =>
      obtain ⟨k, hk, rfl, hb, ho⟩ := hrel
      have Hb := Lib.hid hb; clear hb
      by_cases hkn : k < n
      · obtain ⟨bb, oo, rfl, hcell⟩ := (HI.out.below Hb.out).cells (by omega)
        obtain ⟨hc1, hc2⟩ := hcell k hkn
        clear hcell
        have Hlt := Lib.hid (HI.out.lt (nthI l k) (nthI_mem (by rw [Hl.out]; exact hkn)))
        have Hdef := Lib.hid (show ∀ s, s = nthI l k → strV (ivT (nthI l k)) = strV (if s.2 = s.1 then dec s.1 else dec s.1 ++ 45 :: dec s.2) from by rintro s rfl; rfl)
        generalize hs : nthI l k = s at *
        have Hs := Lib.hid hs; clear hs
        have Hdef := Lib.hid (Hdef.out s rfl)
        obtain ⟨x, y⟩ := s
        simp only at hc1 hc2 Hdef Hlt
        obtain ⟨xs, ho, hx⟩ := ho.out
        have hxl : xs.length = n := by have := ho.1; omega
        have Hx := Lib.hid hx
        have Hxl := Lib.hid hxl
        obtain ⟨z, hz⟩ : ∃ z, xs[k]? = some z := ⟨xs[k]'(by omega), List.getElem?_eq_getElem (by omega)⟩
        have hgl := (ho.lt w.heap.size rfl).2
        have HoW := Lib.hid (fun W (h : Below wr.heap.size wr W) => own_below ho h)
        have Hz := Lib.hid (fun W (h : Below wr.heap.size wr W) => ((own_below ho h).cellAt k (by omega)).trans hz)
        have hA := (Below.refl _ wr).alloc (Nat.le_refl _) (.cells #[.int .u64 x, .int .u64 y] 31)
        have HA := Lib.hid hA
        have hD1 := Lib.hid (fun W (h : Below w.heap.size w W) => decimal_any x Hlt.out.1 W (HT.out.below h))
        have hD2 := Lib.hid (fun W (h : Below w.heap.size w W) => decimal_any y Hlt.out.2 W (HT.out.below h))
        have HbW := Lib.hid (fun W (h : Below wr.heap.size wr W) => Hb.out.trans (h.mono Hb.out.size))
        clear hx hxl ho hA hz
        go_wp2_with fail
        refine (hD1.out _ (HbW.out _ HA.out)).mono ?_
        rintro e w2 ⟨rfl, hb2⟩
        have q3 := hb2.cell (p := ⟨wr.heap.size, 0, none⟩) (by simp)
        have q4 := hb2.cell (p := ⟨wr.heap.size, 1, none⟩) (by simp)
        simp only [World.cell?_alloc_mark] at q3 q4
        simp at q3 q4
        have Hb2 := Lib.hid (HA.out.trans (hb2.mono HA.out.size))
        have c0 := Hz.out _ Hb2.out
        have f0 := (HoW.out _ Hb2.out).frozenAt k
        clear hb2 hc1 hc2
        have hkw : wr.heap.size ≠ w.heap.size := by omega
        by_cases hxy : y = x
        · subst hxy
          have Hd := Lib.hid (Hdef.out.trans (by rw [if_pos rfl]))
          go_wp2_with fail
          go_roundw
          case rel => exact ⟨k + 1, by omega, by go_num, Below.setCell (HbW.out _ Hb2.out) (Nat.le_refl _) _, xs.set k (strV (dec y)), ((HoW.out _ Hb2.out).stored k _).1, by
            have h := set_done (f := fun i => strV (ivT (nthI l i))) Hx.out (by rw [Hxl.out]; exact hkn)
            rw [Hs.out, Hd.out] at h
            exact h⟩
          case measure => simp [intOf]; omega
        · have Hd := Lib.hid (Hdef.out.trans (by rw [if_neg hxy]))
          have hne : ((y : Int) != (x : Int)) = true := by rw [bne_iff_ne]; omega
          clear hxy
          go_wp2_with fail
          have q1 := ((HoW.out _ Hb2.out).stored k (strV (dec x))).1
          have hb3 : Below w.heap.size w (w2.setCell ⟨w.heap.size, k, none⟩ (strV (dec x))) := Below.setCell (HbW.out _ Hb2.out) (Nat.le_refl _) _
          have q5 : (w2.setCell ⟨w.heap.size, k, none⟩ (strV (dec x))).cell? ⟨w.heap.size, k, none⟩ = some (strV (dec x)) := World.cell?_setCell_same _ _ _ c0
          have q6 : (w2.setCell ⟨w.heap.size, k, none⟩ (strV (dec x))).cell? ⟨wr.heap.size, 1, none⟩ = some (.int .u64 y) := by rw [World.cell?_setCell_other _ _ _ _ (by intro h; exact hkw (congrArg Addr.block h).symm)]; exact q4
          have Hq1 := Lib.hid q1
          have Hb3 := Lib.hid hb3
          clear q1 hb3 q3 q4 c0 f0
          generalize hW : w2.setCell ⟨w.heap.size, k, none⟩ (strV (dec x)) = w3 at *
          have HW := Lib.hid hW; clear hW
          have r1 : ∀ W, Below w3.heap.size w3 W → W.cell? ⟨w.heap.size, k, none⟩ = some (strV (dec x)) := fun W h => (h.cell (p := ⟨w.heap.size, k, none⟩) (cell_lt q5)).trans q5
          have r2 : ∀ W, Below w3.heap.size w3 W → W.cell? ⟨wr.heap.size, 1, none⟩ = some (.int .u64 y) := fun W h => (h.cell (p := ⟨wr.heap.size, 1, none⟩) (cell_lt q6)).trans q6
          have r3 : ∀ W, Below w3.heap.size w3 W → W.frozen? ⟨w.heap.size, k, none⟩ = false := fun W h => (own_below Hq1.out h).frozenAt k
          have hD3 := Lib.hid (fun W (h : Below w3.heap.size w3 W) => hD2.out W (Hb3.out.trans (h.mono Hb3.out.size)))
          have hl1 := dec_len Hlt.out.1
          have hl2 := dec_len Hlt.out.2
          have ha1 : ∀ W, (Op.stringOp .add ⟨#[45]⟩ ⟨(dec y).toArray⟩).run Tryz.prog W = .ok (.string ⟨(45 :: dec y).toArray⟩) W := fun W => run_string_add_lists W [45] (dec y) (by simp) (by omega)
          have ha2 : ∀ W, (Op.stringOp .add ⟨(dec x).toArray⟩ ⟨(45 :: dec y).toArray⟩).run Tryz.prog W = .ok (.string ⟨(dec x ++ 45 :: dec y).toArray⟩) W := fun W => run_string_add_lists W (dec x) (45 :: dec y) (by omega) (by simp; omega)
          clear hl1 hl2
          go_region_with ((go_at_call 36; refine (hD3.out _ (by first | assumption | exact Below.refl _ _ | exact (Below.refl _ _).drew)).mono ?_; rintro e w4 ⟨rfl, hb4⟩; have hS4 : Below w3.heap.size w3 w4 := Below.trans (by first | assumption | exact Below.refl _ _ | exact (Below.refl _ _).drew) (hb4.mono (by first | exact Nat.le_refl _ | simp))))
          all_goals
            have hoW := own_below Hq1.out hS4
            have hbW := Hb3.out.trans (hS4.mono Hb3.out.size)
            go_wp2
            go_roundw
            case rel => exact ⟨k + 1, by omega, by go_num, by first | exact Below.setCell hbW (Nat.le_refl _) _ | exact Below.setCell hbW.drew (Nat.le_refl _) _, (xs.set k (strV (dec x))).set k (strV (dec x ++ 45 :: dec y)), (hoW.stored k _).1, by
              have h := set_done (f := fun i => strV (ivT (nthI l i))) Hx.out (by rw [Hxl.out]; exact hkn)
              rw [Hs.out, Hd.out] at h
              rw [List.set_set]
              exact h⟩
            case measure => simp [intOf]; omega
      · obtain rfl : k = n := by omega
        obtain ⟨xs, ho, hx⟩ := ho.out
        have hxl : xs.length = k := by have := ho.1; omega
        have hgl := (ho.lt w.heap.size rfl).2
        have hJ := Lib.hid (Tryz.strings_Join w.heap.size 0 k (l.map fun s => (⟨(ivT s).toArray⟩ : ByteArray)) ⟨#[44]⟩ wr (fun j u hu => by
          rw [Nat.zero_add]
          obtain ⟨hj, hju⟩ := List.getElem?_eq_some_iff.1 hu
          simp only [List.length_map] at hj
          have hjk : j < k := by rw [← Hl.out]; exact hj
          rw [ho.cellAt j (by omega), hx j hjk, nthI_get hj]
          simp only [List.getElem_map] at hju
          rw [← hju]) hgl (by rw [List.length_map, Hl.out]; omega) (by rw [List.length_map, Hl.out]; exact Nat.le_refl _) (by
          rw [List.map_map]
          have h := join_len (L := l.map ivT) (fun t ht => by
            obtain ⟨s, hs, rfl⟩ := List.mem_map.1 ht
            exact ivT_len (HI.out.lt s hs))
          rw [List.length_map, Hl.out] at h
          have e : ((fun x : ByteArray => x.data.toList) ∘ fun s => (⟨(ivT s).toArray⟩ : ByteArray)) = ivT := rfl
          rw [e]
          have : k * 42 ≤ 140737488355328 := by omega
          exact Nat.le_trans h this))
        rw [List.length_map, Hl.out] at hJ
        have Hres := Lib.hid (show (Lib.join ((l.map fun s => (⟨(ivT s).toArray⟩ : ByteArray)).map (·.data.toList)) [44]) = textL l from by
          rw [textL, if_neg (by intro h; rw [h] at Hl; exact hn0 Hl.out.symm), List.map_map]
          rfl)
        have hJ2 := Lib.hid (show Calls Tryz.prog 37 #[.slice (some ⟨w.heap.size, 0, none⟩) k k, .string ⟨#[44]⟩] wr fun e w' => e = .returned (strV (textL l)) ∧ Below wr.heap.size wr w' from by rw [← Hres.out]; exact hJ.out)
        clear ho hx hJ Hres
        go_wp2_with fail
        refine hJ2.out.mono ?_
        rintro e w2 ⟨rfl, hb2⟩
        have Hb2 := Lib.hid hb2
        clear hb2
        go_wp2
        go_ret
        exact ⟨rfl, Hb.out.trans (Hb2.out.mono Hb.out.size)⟩

end Go.Proofs.YtbiohohclnaocaaGreatDoor
