/-
  Walk: strings.Split at the comma, ranges.each at ranges.part.
-/
import Derived.Test.YtbiohohclnaocaaGreatDoorRgPart
import Derived.Test.YtbiohohclnaocaaGreatDoorRgCheck
import Derived.Test.YtbiohohclnaocaaGreatDoorRgStarts
import Derived.Test.YtbiohohclnaocaaGreatDoorRgNormP
namespace Go.Proofs.YtbiohohclnaocaaGreatDoor
open Go.RowKit
set_option linter.unusedVariables false

/-- A slice of texts in memory. -/
structure Strs (w : World) (a : Option Addr) (n cap : Nat) (l : List Txt) : Prop where
  len : l.length = n
  room : n ≤ cap
  most : cap ≤ 9223372036854775807
  nilc : a = none → cap = 0
  cells : 0 < n → ∃ b o, a = some ⟨b, o, none⟩ ∧ ∀ i, i < n → w.cell? ⟨b, o + i, none⟩ = some (strV (nthT l i))

theorem Strs.below {w w' : World} {a : Option Addr} {n cap : Nat} {l : List Txt} (h : Strs w a n cap l) (hb : Below w.heap.size w w') : Strs w' a n cap l := by
  refine ⟨h.len, h.room, h.most, h.nilc, fun hn => ?_⟩
  obtain ⟨b, o, ha, hc⟩ := h.cells hn
  refine ⟨b, o, ha, fun i hi => ?_⟩
  have := hc i hi
  exact (hb.cell (p := ⟨b, o + i, none⟩) (cell_lt this)).trans this

theorem split_bytes (s : Txt) : Lib.splitB ⟨#[44]⟩ 0 (Lib.countB ⟨s.toArray⟩ ⟨#[44]⟩) ⟨s.toArray⟩ = (pcs 44 s).map fun l => (⟨l.toArray⟩ : ByteArray) := by
  have h := Lib.splitB_data ⟨#[44]⟩ 0 (Lib.countB ⟨s.toArray⟩ ⟨#[44]⟩) ⟨s.toArray⟩
  have e : Lib.splitK [44] 0 (Lib.count s [44]) s = pcs 44 s := by
    have h1 := count_pcs 44 (s.length + 1) s (by omega)
    have h2 := split_pcs 44 (s.length + 1) s (by omega)
    have : Lib.count s [44] = (pcs 44 s).length - 1 := by unfold Lib.count; omega
    rw [this]; exact h2
  have h' : (Lib.splitB ⟨#[44]⟩ 0 (Lib.countB ⟨s.toArray⟩ ⟨#[44]⟩) ⟨s.toArray⟩).map (·.data.toList) = pcs 44 s := h.trans e
  rw [← h', List.map_map]
  conv => lhs; rw [← List.map_id (Lib.splitB ⟨#[44]⟩ 0 (Lib.countB ⟨s.toArray⟩ ⟨#[44]⟩) ⟨s.toArray⟩)]
  rfl

theorem count_bytes (s : Txt) : Lib.countB ⟨s.toArray⟩ ⟨#[44]⟩ + 1 = (pcs 44 s).length := by
  have h1 := count_pcs 44 (s.length + 1) s (by omega)
  exact h1

theorem split_any (s : Txt) (hs : s.length ≤ 1000000) (w : World) (hM : MaxL w) :
    Calls Tryz.prog 40 #[strV s, .string ⟨#[44]⟩] w fun e w' => (∃ a cap, e = .returned (.slice a (pcs 44 s).length cap) ∧ Strs w' a (pcs 44 s).length cap (pcs 44 s)) ∧ Below w.heap.size w w' := by
  obtain ⟨m, hm⟩ := hM
  refine (Tryz.strings_Split ⟨s.toArray⟩ ⟨#[44]⟩ m w (by simp [ByteArray.size]; omega) hm (by decide)).mono ?_
  rintro e w' ⟨rfl, rfl⟩
  rw [split_bytes, count_bytes]
  have hb : (pcs 44 s).length ≤ 1000001 := by
    have h1 := count_bytes s
    have h2 := Lib.countB_le ⟨#[44]⟩ (by decide) (⟨s.toArray⟩ : ByteArray).size ⟨s.toArray⟩ (Nat.le_refl _)
    simp [ByteArray.size] at h2
    omega
  refine ⟨⟨_, _, rfl, rfl, Nat.le_refl _, by omega, (by intro h; cases h), fun hn => ⟨w.heap.size, 0, rfl, fun i hi => ?_⟩⟩, (Below.refl _ _).alloc (Nat.le_refl _) _⟩
  rw [World.cell?_alloc_mark, nthT_get hi]
  simp [hi]

theorem run_append_is {w : World} (base : Nat) (v : Value) (n : Nat) (xs : List Iv) (hown : w.ownsRow base 31 2 v n (ivC xs)) (A : Option Addr) (m c : Nat) (l : List Iv) (hr : Rd w 2 A m (ivC l)) (hb : n + m ≤ 2000000) (hbase : base ≤ w.heap.size) :
    ∃ v' w', (Builtin.append_ #[22, 22] 22 #[v, .slice A m c]).run Tryz.prog w = .ok v' w' ∧ w'.ownsRow base 31 2 v' (n + m) (ivC (xs ++ l)) ∧ w.grownBy w' v.ownBlock := by
  rw [ivC_append]
  exact run_append_rd base _ _ _ _ 2 16 Tryz.underlying22 Tryz.info_iv rfl (by omega) v n _ hown A m c _ hr (ivC_one l) (by unfold maxLen; omega) (by omega) hbase

theorem partR_code (s : Txt) : (partR s).1 = 0 ∨ (partR s).1 = 8 ∨ (partR s).1 = 15 := by
  rw [partR_pair]
  unfold pairP numP
  repeat' split
  all_goals simp

theorem errNew_pos {c : Nat} (a : Nat) (h : c ≠ 0) : errNew (c : Int) (a : Int) = some ((c : Int), some (a : Int)) := by
  unfold errNew; rw [if_neg (by omega)]

/-- What ranges.each answers. -/
def EachRes (ls : List Txt) (base : Nat) (e : Ending) (w' : World) : Prop :=
  (∃ c i, partsE ls = some (c, i) ∧ e = .returned (.tuple #[.slice none 0 0, errVal (some ((c : Int), some (i : Int)))])) ∨
  (partsE ls = none ∧ ∃ v, e = .returned (.tuple #[v, .nilIface]) ∧ w'.ownsRow base 31 2 v ls.length (ivC (partsL ls)))

set_option maxRecDepth 20000 in
set_option maxHeartbeats 4000000 in
theorem each_any (a : Option Addr) (n cap : Nat) (ls : List Txt) (w : World) (hS : Strs w a n cap ls) (hM : MaxL w) (hR : RangeE w) (hn : n ≤ 1000001) (hl : ∀ s ∈ ls, s.length ≤ 1000000) :
    Calls Tryz.prog 41 #[.slice a n cap, .func (.func 42) #[] #[]] w fun e w' => EachRes ls w.heap.size e w' ∧ Below w.heap.size w w' := by
  have HS := Lib.hid hS
  have Hl := Lib.hid hS.len
  have HP := Lib.hid (fun s (h : s ∈ ls) W (hb : Below w.heap.size w W) => part_any s (hl s h) W (hM.below hb) (hR.below hb))
  clear hS hM hR hl
  go_enter Tryz.func41, Tryz.ntmps41
  go_wp2
  go_loopw [6, 7, 8, 9, 10, 13] (fun v _ _ _ _ i wr => ∃ k : Nat, k ≤ n ∧ i = .int .i64 k ∧ Below w.heap.size w wr ∧ Hid (∀ j, j < k → partAt ls j = none) ∧ Hid (wr.ownsRow w.heap.size 31 2 v k (ivC (partsL (ls.take k))))) (fun _ _ _ _ _ i _ => n - (intOf i).toNat)
  case atStart => exact ⟨0, by omega, rfl, Below.refl _ _, (fun j h => by omega), World.ownsRow_nil _ _ _ _⟩
  case round =>
    obtain ⟨k, hk, rfl, hb, ht, ho⟩ := hrel
    have Hb := Lib.hid hb; clear hb
    by_cases hkn : k < n
    · obtain ⟨bb, oo, rfl, hcell⟩ := (HS.out.below Hb.out).cells (by omega)
      have hc := hcell k hkn
      clear hcell
      have hkl : k < ls.length := by rw [Hl.out]; exact hkn
      have hPk := Lib.hid (HP.out (nthT ls k) (by rw [nthT_get hkl]; exact List.getElem_mem _))
      have hin : partAt ls k = if (partR (nthT ls k)).1 = 0 then none else some ((partR (nthT ls k)).1, k) := rfl
      have Htk := Lib.hid (show partsL (ls.take (k + 1)) = partsL (ls.take k) ++ [(partR (nthT ls k)).2] from by
        unfold partsL
        rw [List.take_succ_eq_append_getElem hkl, List.map_append, nthT_get hkl]; rfl)
      have hcode := partR_code (nthT ls k)
      have Hlt := Lib.hid (partR_lt (s := nthT ls k))
      clear hkl
      generalize nthT ls k = p at *
      generalize partR p = r at *
      obtain ⟨c, x, y⟩ := r
      dsimp only at hPk hin Htk hcode Hlt
      have Hin := Lib.hid hin; clear hin
      have HPk := hPk
      clear hPk
      go_wp2_with fail
      refine (HPk.out _ Hb.out).mono ?_
      rintro e w1 ⟨rfl, hb1⟩
      have Hb1 := Lib.hid (Hb.out.trans (hb1.mono Hb.out.size))
      have Ho1 := Lib.hid (own_below ho.out hb1)
      clear hb1 hc
      by_cases hc0 : c = 0
      · subst hc0
        have Hin' := Lib.hid (show partAt ls k = none from Hin.out)
        have hA := Hb1.out.alloc Hb1.out.size (.cells #[.int .u64 x, .int .u64 y] 31)
        have HA := Lib.hid hA
        clear hA
        obtain ⟨v', w6, hr, ho6, hg6⟩ := run_append_is w.heap.size u6 k (partsL (ls.take k)) ((Ho1.out.alloc (.cells #[.int .u64 x, .int .u64 y] 31)).alloc (.cells #[.int .u64 x, .int .u64 y] 31)) (some ⟨w1.heap.size + 1, 0, none⟩) 1 1 [(x, y)] (rd_block (heap_at_new _ _ _ (by simp)) rfl rfl) (by omega) (by have := HA.out.size; simp at this ⊢; omega)
        have Ho6 := Lib.hid ho6; clear ho6
        have Hb6 := Lib.hid (HA.out.alloc HA.out.size (.cells #[.int .u64 x, .int .u64 y] 31) |>.grown hg6 (by have := HA.out.size; simp at this ⊢; omega) (fun k hk => (Ho1.out.lt k hk).1))
        clear hg6
        rw [show ((0 : Nat) : Int) = 0 from rfl]
        go_wp2_with (at_builtin; refine wpList_append_hr _ _ 22 rfl rfl _ _ rfl rfl _ _ hr ?_)
        go_roundw
        case rel => exact ⟨k + 1, by omega, by go_num, Hb6.out, (fun j hj => by
          rcases Nat.lt_or_ge j k with h | h
          · exact ht.out j h
          · rw [show j = k from (by omega)]; exact Hin'.out), by rw [Htk.out]; exact Ho6.out⟩
        case measure => simp [intOf]; omega
      · have Hr := Lib.hid (show partsE ls = some (c, k) from firstS_some (by rw [Hl.out]; exact hkn) ht.out (by rw [Hin.out, if_neg hc0]))
        have Hne := Lib.hid (errNew_pos k hc0)
        have hne : ((c : Int) != 0) = true := by rw [bne_iff_ne]; omega
        go_wp2_with fail
        refine (new_any c k _).mono ?_
        rintro e w3 ⟨rfl, rfl⟩
        go_wp2_with fail
        refine bodyPost_ret (v := .tuple #[.slice none 0 0, errVal (errNew c k)]) (by simp [results, Tryz.results41, go_sem]) rfl ?_
        exact ⟨.inl ⟨c, k, Hr.out, by rw [Hne.out]⟩, Hb1.out.alloc Hb1.out.size _⟩
    · obtain rfl : k = n := by omega
      go_wp2
      refine bodyPost_ret (v := .tuple #[u6, .nilIface]) (by simp [results, Tryz.results41, go_sem]) rfl ?_
      refine ⟨.inr ⟨firstS_none (by rw [Hl.out]; exact ht.out), _, rfl, ?_⟩, Hb.out⟩
      have h := ho.out
      rw [List.take_of_length_le (by rw [Hl.out]; exact Nat.le_refl _)] at h
      rw [Hl.out]
      exact h

end Go.Proofs.YtbiohohclnaocaaGreatDoor
