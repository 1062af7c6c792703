/-
  Walks: crc.matrix.apply, square, bit, Join.
-/
import Derived.Test.YteonpcckifkafaaCrcMat
import Derived.Test.YteonpcckifkafaaCrcPut
import Derived.Test.YteonpcckifkafaaKRows
import Derived.Laws.CopyOwn
namespace Go.Proofs.Yteonpcckifkafaa
open Go.RowKit
set_option linter.unusedVariables false

/-- Words as cells. -/
def u32s (l : List Nat) : List Value := l.map fun x => Value.int .u32 ((x : Nat) : Int)

theorem u32s_get (l : List Nat) (i : Nat) (h : i < l.length) : (u32s l)[i]? = some (.int .u32 ((nth l i : Nat) : Int)) := by simp [u32s, nth, h]
theorem u32s_one (l : List Nat) : ∀ v ∈ (u32s l).toArray.toList, v.oneCell' = true := by
  intro v hv
  simp [u32s] at hv
  obtain ⟨x, _, rfl⟩ := hv
  rfl

theorem go_pick (x r : Nat) (hx : x < 4294967296) (hr : r < 4294967296) :
    bits .and .u32 (r : Int) (-bits .and .u32 (x : Int) 1 % 4294967296) = ((x % 2 * r : Nat) : Int) := by
  rw [low_bit x hx, neg_low]
  have h := u32_and_nat r (x % 2 * 4294967295) hr (by omega)
  refine h.trans ?_
  congr 1
  rcases Nat.mod_two_eq_zero_or_one x with h | h <;> rw [h]
  · simp
  · rw [Nat.one_mul, Nat.one_mul]; exact and_ones _ hr

theorem Try.info_u32 : (Try.prog.info? 24).map (·.size) = some 1 := by kernel_rfl
theorem Try.info_mat : (Try.prog.info? 43).map (·.size) = some 32 := by kernel_rfl

set_option maxHeartbeats 1000000 in
theorem apply_any (M : List Nat) (x : Nat) (w : World) (hM : Mat M) (hx : x < 4294967296) :
   Calls Try.prog 22 #[.agg (u32s M).toArray, .int .u32 x] w fun e w' => e = .returned (.int .u32 ((applyM M x : Nat) : Int)) ∧ w' = w.alloc (.cells (u32s M).toArray 43) := by
  have Hlen := Lib.hid hM.len
  have Hlt := Lib.hid hM.lt
  clear hM
  have Hsz := Lib.hid (show (Try.prog.info? 43).map (·.size) = some (u32s M).toArray.size from by rw [Try.info_mat]; simp [u32s, Hlen.out])
  have Hnth := Lib.hid (u32s_get M)
  generalize hcs : (u32s M).toArray = cs at *
  have Hcs := Lib.hid hcs; clear hcs
  go_enter Try.func22, Try.ntmps22
  go_wp2_with (refine wpList_load_row rfl 43 _ rfl w.heap.size rfl 43 cs (0, 0) _ (heap_alloc_new w _) Try.underlying43 rfl Hsz.out ?_)
  go_loop [1, 5, 7, 9] (fun t y _ i => ∃ k : Nat, k ≤ 32 ∧ i = .int .i64 k ∧ t = .int .u32 ((x / 2 ^ k : Nat) : Int) ∧ y = .int .u32 ((applyTo M x k : Nat) : Int)) (fun _ _ _ i => 32 - (intOf i).toNat)
  case atStart => exact ⟨0, by omega, rfl, by simp, rfl⟩
  case round =>
    obtain ⟨k, hk, rfl, rfl, rfl⟩ := hrel
    by_cases hk32 : k < 32
    · have hv : cs[k]? = some (.int .u32 ((nth M k : Nat) : Int)) := by
        rw [← Hcs.out]
        simpa using Hnth.out k (by rw [Hlen.out]; exact hk32)
      have hr := nth_lt Hlt.out (by omega) k
      have hy := applyTo_lt Hlt.out x k
      have hd : x / 2 ^ k < 4294967296 := Nat.lt_of_le_of_lt (Nat.div_le_self _ _) hx
      have Hp := Lib.hid (go_pick (x / 2 ^ k) (nth M k) hd hr)
      have hpl : x / 2 ^ k % 2 * nth M k < 4294967296 := by
        rcases Nat.mod_two_eq_zero_or_one (x / 2 ^ k) with e | e <;> rw [e] <;> omega
      have Hx := Lib.hid (u32_xor_nat (applyTo M x k) (x / 2 ^ k % 2 * nth M k) hy hpl)
      have Hn := Lib.hid (show applyTo M x (k + 1) = applyTo M x k ^^^ (x / 2 ^ k % 2 * nth M k) from rfl)
      have Hh := Lib.hid (show ((x / 2 ^ k : Nat) : Int) / 2 = ((x / 2 ^ (k + 1) : Nat) : Int) from by rw [Nat.pow_succ, ← Nat.div_div_eq_div_mul]; simp)
      have Hv := Lib.hid hv; clear hv hpl
      generalize nth M k = r at *
      generalize hq : x / 2 ^ k = q at *
      clear hq
      generalize applyTo M x k = y at *
      go_wp2_with (refine wpList_index_agg 43 _ _ rfl rfl cs k 32 24 .u32 (.int .u32 (r : Int)) rfl rfl Try.underlying43 hk32 Try.underlying24 Try.info_u32 Hv.out ?_)
      rw [Hp.out, Hx.out]
      go_round
      case rel => exact ⟨k + 1, by omega, by go_num, by rw [Hh.out], by rw [Hn.out]⟩
      case measure => simp [intOf]; omega
    · obtain rfl : k = 32 := by omega
      go_wp2
      go_ret
      exact ⟨rfl, rfl⟩

theorem u32s_app (a b : List Nat) : u32s (a ++ b) = u32s a ++ u32s b := by simp [u32s]

/-- The rows behind k rounds of square. -/
def sqPart (S : List Nat) (k : Nat) : Array Value := (u32s (S.take k ++ List.replicate (32 - k) 0)).toArray

theorem sqPart_size (S : List Nat) (k : Nat) (h : S.length = 32) (hk : k ≤ 32) : (sqPart S k).size = 32 := by simp [sqPart, u32s, h]; omega
theorem sqPart_all (S : List Nat) (h : S.length = 32) : sqPart S 32 = (u32s S).toArray := by
  unfold sqPart
  rw [List.take_of_length_le (by omega)]
  simp
theorem sqPart_set (S : List Nat) (k : Nat) (h : S.length = 32) (hk : k < 32) : (sqPart S k).setIfInBounds k (.int .u32 ((nth S k : Nat) : Int)) = sqPart S (k + 1) := by
  unfold sqPart
  rw [List.setIfInBounds_toArray]
  congr 1
  rw [take_nth S k (by omega), show 32 - k = (32 - (k + 1)) + 1 from by omega, List.replicate_succ]
  have hl : (u32s (S.take k)).length = k := by simp [u32s]; omega
  rw [u32s_app, u32s_app, u32s_app, List.set_append_right _ _ (by omega), hl, Nat.sub_self]
  simp [u32s]

set_option maxHeartbeats 1000000 in
theorem square_any (M : List Nat) (w : World) (hM : Mat M) :
   Calls Try.prog 21 #[.agg (u32s M).toArray] w fun e w' => e = .returned (.agg (u32s (squareM M)).toArray) ∧ Below w.heap.size w w' := by
  have Hlen := Lib.hid hM.len
  have HM := Lib.hid hM
  have hS := hM.square
  have HSlen := Lib.hid hS.len
  have Hsz := Lib.hid (show (Try.prog.info? 43).map (·.size) = some (u32s M).toArray.size from by rw [Try.info_mat]; simp [u32s, Hlen.out])
  have Hnth := Lib.hid (u32s_get M)
  have Hap := Lib.hid (fun (x : Nat) (w : World) (hx : x < 4294967296) => apply_any M x w hM hx)
  have Hrow := Lib.hid (fun (k : Nat) (hk : k < 32) => nth_lt hM.lt (by omega) k)
  have Hsq := Lib.hid (fun (k : Nat) (hk : k < 32) => nth_map (applyM M) M k (by rw [hM.len]; exact hk))
  clear hM hS
  generalize hcs : (u32s M).toArray = cs at *
  have Hcs := Lib.hid hcs; clear hcs
  go_enter Try.func21, Try.ntmps21
  have Hg0 := Lib.hid (fun (o1 o2 : Obj) => (show (((w.alloc (.cells cs 43)).alloc o1).alloc o2).heap[w.heap.size]? = some (.cells cs 43) from by
    rw [Below.heap_alloc _ _ _ (by simp only [World.size_alloc]; omega), Below.heap_alloc _ _ _ (by simp only [World.size_alloc]; omega)]; exact heap_alloc_new _ _))
  have Hg1 := Lib.hid (fun (o0 o2 : Obj) (z : Array Value) => (show (((w.alloc o0).alloc (.cells z 43)).alloc o2).heap[w.heap.size + 1]? = some (.cells z 43) from by
    rw [Below.heap_alloc _ _ _ (by simp only [World.size_alloc]; omega)]; exact heap_alloc2_new _ _ _))
  have Hg2 := Lib.hid (fun (o0 o1 : Obj) (z : Array Value) => (show (((w.alloc o0).alloc o1).alloc (.cells z 43)).heap[w.heap.size + 1 + 1]? = some (.cells z 43) from by
    have h := heap_alloc_new ((w.alloc o0).alloc o1) (.cells z 43)
    rw [World.size_alloc, World.size_alloc] at h
    exact h))
  go_wp2_with (refine wpList_load_row rfl 43 _ rfl w.heap.size rfl 43 cs (0, 0) _ (Hg0.out _ _) Try.underlying43 rfl Hsz.out ?_)
  go_loopw [4, 5, 7] (fun _ _ i wr => ∃ k : Nat, k ≤ 32 ∧ i = .int .i64 k ∧ Below w.heap.size w wr ∧ w.heap.size + 1 + 1 < wr.heap.size ∧ Hid (wr.heap[w.heap.size]? = some (.cells cs 43)) ∧
      Hid (∃ z : Array Value, z.size = 32 ∧ wr.heap[w.heap.size + 1]? = some (.cells z 43)) ∧ Hid (wr.heap[w.heap.size + 1 + 1]? = some (.cells (sqPart (squareM M) k) 43))) (fun _ _ i _ => 32 - (intOf i).toNat)
  case atStart =>
    refine ⟨0, by omega, rfl, ((((Below.refl _ _).alloc (Nat.le_refl _) _).alloc (by simp only [World.size_alloc]; omega) _).alloc (by simp only [World.size_alloc]; omega) _), by simp only [World.size_alloc]; omega, Hg0.out _ _, ⟨_, ?_, Hg1.out _ _ _⟩, Hg2.out _ _ _⟩
    rfl
  case round =>
    obtain ⟨k, hk, rfl, hb, hsz, h0, h1, h2⟩ := hrel
    by_cases hk32 : k < 32
    · have hv : cs[k]? = some (.int .u32 ((nth M k : Nat) : Int)) := by
        rw [← Hcs.out]
        simpa using Hnth.out k (by rw [Hlen.out]; exact hk32)
      have hr := Hrow.out k hk32
      have Hn := Lib.hid (show nth (squareM M) k = applyM M (nth M k) from Hsq.out k hk32)
      have Hv := Lib.hid hv; clear hv
      generalize nth M k = r at *
      have Hset := Lib.hid (sqPart_set (squareM M) k HSlen.out hk32)
      have Hps := Lib.hid (sqPart_size (squareM M) k HSlen.out (Nat.le_of_lt hk32))
      go_wp2_with (first | (refine wpList_index_agg 43 _ _ rfl rfl cs k 32 24 .u32 (.int .u32 (r : Int)) rfl rfl Try.underlying43 hk32 Try.underlying24 Try.info_u32 Hv.out ?_) | (refine wpList_load_row rfl 43 _ rfl w.heap.size rfl 43 cs (0, 0) _ h0.out Try.underlying43 rfl Hsz.out ?_))
      refine (Hap.out r _ hr).mono ?_
      rintro e w' ⟨rfl, rfl⟩
      have hg3 := (Below.heap_alloc wr (.cells cs 43) _ hsz).trans h2.out
      have hcell := cell_of_row _ (w.heap.size + 1 + 1) k _ _ _ hg3
      have hfr := frozen_of_row _ (w.heap.size + 1 + 1) k _ _ hg3
      have Hg3 := Lib.hid hg3; clear hg3
      have hval : (sqPart (squareM M) k)[k]? = some ((sqPart (squareM M) k)[k]'(by rw [Hps.out]; exact hk32)) := Array.getElem?_eq_getElem _
      rw [hval] at hcell
      generalize (sqPart (squareM M) k)[k]'(by rw [Hps.out]; exact hk32) = old at *
      clear hval
      go_wp2
      go_roundw
      case rel =>
        refine ⟨k + 1, by omega, by go_num, (hb.setCell (p := ⟨w.heap.size + 1 + 1, k, none⟩) (by show w.heap.size ≤ w.heap.size + 1 + 1; omega) _).alloc (by simp [World.setCell]; omega) _, by simp [World.setCell]; omega, ?_, ?_, ?_⟩
        · show _ = _
          rw [Below.heap_alloc _ _ _ (by simp [World.setCell]; omega), heap_setCell_other _ _ _ _ (by show w.heap.size ≠ w.heap.size + 1 + 1; omega)]
          exact h0.out
        · obtain ⟨z, hz, hh⟩ := h1.out
          refine ⟨z, hz, ?_⟩
          rw [Below.heap_alloc _ _ _ (by simp [World.setCell]; omega), heap_setCell_other _ _ _ _ (by show w.heap.size + 1 ≠ w.heap.size + 1 + 1; omega)]
          exact hh
        · show _ = _
          rw [Below.heap_alloc _ _ _ (by simp [World.setCell]; omega), heap_setCell_same _ _ _ _ _ _ h2.out, ← Hset.out, Hn.out]
      case measure => simp [intOf]; omega
    · obtain rfl : k = 32 := by omega
      obtain ⟨z, hz, hh⟩ := h1.out
      rw [sqPart_all _ HSlen.out] at h2
      have Hz := Lib.hid hz; clear hz
      have Hh := Lib.hid hh; clear hh
      have hSs : (u32s (squareM M)).toArray.size = 32 := by simp [u32s, HSlen.out]
      have HSz := Lib.hid (show (Try.prog.info? 43).map (·.size) = some (u32s (squareM M)).toArray.size from by rw [Try.info_mat, hSs])
      have HSe := Lib.hid hSs; clear hSs
      have Hone := Lib.hid (u32s_one (squareM M))
      generalize hss : (u32s (squareM M)).toArray = ss at *
      have Hss := Lib.hid hss; clear hss
      have Hrow1 := Lib.hid (setRow_heap wr (w.heap.size + 1) z ss 43 (0, 0) Hh.out)
      go_wp2_with (first | (refine wpList_load_row rfl 43 _ rfl (w.heap.size + 1 + 1) rfl 43 ss (0, 0) _ h2.out Try.underlying43 rfl HSz.out ?_) | (refine wpList_store_row 43 _ _ rfl rfl (w.heap.size + 1) ss z 43 rfl rfl Hh.out (by rw [HSe.out, Hz.out]) Hone.out HSz.out ?_))
      refine bodyPost_ret (results_cell_row rfl _ _ (w.heap.size + 1) 43 ss (0, 0) _ rfl Hrow1.out Try.underlying43 rfl HSz.out) rfl ?_
      exact ⟨by rw [Hss.out], below_setRow hb (by omega) _⟩

theorem two_pow_mod (k : Nat) (h : k < 31) : (2 : Int) ^ k % 4294967296 = ((2 ^ k : Nat) : Int) := by
  have h1 := two_pow_lt k (by omega)
  have h2 : ((2 ^ k : Nat) : Int) = (2 : Int) ^ k := by push_cast; rfl
  rw [← h2]
  generalize 2 ^ k = q at *
  omega

theorem bitM_len : bitM.length = 32 := rep_bit.len

set_option maxHeartbeats 1000000 in
theorem bit_any (w : World) :
   Calls Try.prog 20 #[] w fun e w' => e = .returned (.agg (u32s bitM).toArray) ∧ Below w.heap.size w w' := by
  have Hg1 := Lib.hid (fun (o0 : Obj) (z : Array Value) => (show ((w.alloc o0).alloc (.cells z 43)).heap[w.heap.size + 1]? = some (.cells z 43) from heap_alloc2_new _ _ _))
  have Hg0 := Lib.hid (fun (o1 : Obj) (z : Array Value) => (show ((w.alloc (.cells z 43)).alloc o1).heap[w.heap.size]? = some (.cells z 43) from heap_alloc2_old _ _ _))
  have Hone := Lib.hid (u32s_one (3988292384 :: List.replicate 31 0))
  have Hsz := Lib.hid (show (Try.prog.info? 43).map (·.size) = some (u32s (3988292384 :: List.replicate 31 0)).toArray.size from Try.info_mat)
  go_enter Try.func20, Try.ntmps20
  go_wp2_with (refine wpList_store_row 43 _ _ rfl rfl (w.heap.size + 1) (u32s (3988292384 :: List.replicate 31 0)).toArray (u32s (List.replicate 32 0)).toArray 43 rfl rfl (Hg1.out _ _) rfl Hone.out Hsz.out ?_)
  go_loopw [2, 6] (fun _ i wr => ∃ k : Nat, k ≤ 31 ∧ i = .int .i64 k ∧ Below w.heap.size w wr ∧ w.heap.size + 1 < wr.heap.size ∧
      Hid (∃ z : Array Value, z.size = 32 ∧ wr.heap[w.heap.size]? = some (.cells z 43)) ∧ Hid (wr.heap[w.heap.size + 1]? = some (.cells (sqPart bitM (k + 1)) 43))) (fun _ i _ => 31 - (intOf i).toNat)
  case atStart =>
    refine ⟨0, by omega, rfl, below_setRow (((Below.refl _ _).alloc (Nat.le_refl _) _).alloc (by simp only [World.size_alloc]; omega) _) (by omega) _, by rw [size_setRow]; simp only [World.size_alloc]; omega, ⟨(u32s (List.replicate 32 0)).toArray, rfl, ?_⟩, ?_⟩
    · rw [setRow_other _ _ _ _ (by omega)]
      exact Hg0.out _ _
    · exact setRow_heap _ _ _ _ _ _ (Hg1.out _ _)
  case round =>
    obtain ⟨k, hk, rfl, hb, hsz, h1, h2⟩ := hrel
    by_cases hk31 : k < 31
    · have Hset := Lib.hid (sqPart_set bitM (k + 1) bitM_len (by omega))
      have Hps := Lib.hid (sqPart_size bitM (k + 1) bitM_len (by omega))
      have Hn := Lib.hid (show nth bitM (k + 1) = 2 ^ k from by simp [nth, bitM, hk31])
      have hcell := cell_of_row _ (w.heap.size + 1) (k + 1) _ _ _ h2.out
      have hfr := frozen_of_row _ (w.heap.size + 1) (k + 1) _ _ h2.out
      have hval : (sqPart bitM (k + 1))[k + 1]? = some ((sqPart bitM (k + 1))[k + 1]'(by rw [Hps.out]; omega)) := Array.getElem?_eq_getElem _
      rw [hval] at hcell
      generalize (sqPart bitM (k + 1))[k + 1]'(by rw [Hps.out]; omega) = old at *
      clear hval
      go_wp2
      rw [two_pow_mod k hk31, ← Hn.out]
      go_roundw
      case rel =>
        refine ⟨k + 1, by omega, by go_num, hb.setCell (p := ⟨w.heap.size + 1, k + 1, none⟩) (by show w.heap.size ≤ w.heap.size + 1; omega) _, by simp [World.setCell]; omega, ?_, ?_⟩
        · obtain ⟨z, hz, hh⟩ := h1.out
          refine ⟨z, hz, ?_⟩
          rw [heap_setCell_other _ _ _ _ (by show w.heap.size ≠ w.heap.size + 1; omega)]
          exact hh
        · show _ = _
          rw [heap_setCell_same _ _ _ _ _ _ h2.out, Hset.out]
      case measure => simp [intOf]; omega
    · obtain rfl : k = 31 := by omega
      obtain ⟨z, hz, hh⟩ := h1.out
      rw [sqPart_all _ bitM_len] at h2
      have Hz := Lib.hid hz; clear hz
      have Hh := Lib.hid hh; clear hh
      have hSs : (u32s bitM).toArray.size = 32 := by simp [u32s, bitM_len]
      have HSz := Lib.hid (show (Try.prog.info? 43).map (·.size) = some (u32s bitM).toArray.size from by rw [Try.info_mat, hSs])
      have HSe := Lib.hid hSs; clear hSs
      have HoneB := Lib.hid (u32s_one bitM)
      generalize hss : (u32s bitM).toArray = ss at *
      have Hss := Lib.hid hss; clear hss
      have Hrow1 := Lib.hid (setRow_heap wr w.heap.size z ss 43 (0, 0) Hh.out)
      go_wp2_with (first | (refine wpList_load_row rfl 43 _ rfl (w.heap.size + 1) rfl 43 ss (0, 0) _ h2.out Try.underlying43 rfl HSz.out ?_) | (refine wpList_store_row 43 _ _ rfl rfl w.heap.size ss z 43 rfl rfl Hh.out (by rw [HSe.out, Hz.out]) HoneB.out HSz.out ?_))
      refine bodyPost_ret (results_cell_row rfl _ _ w.heap.size 43 ss (0, 0) _ rfl Hrow1.out Try.underlying43 rfl HSz.out) rfl ?_
      exact ⟨by rw [Hss.out], below_setRow hb (by omega) _⟩

end Go.Proofs.Yteonpcckifkafaa
