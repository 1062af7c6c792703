/-
  Walk: crc.Join.
-/
import Derived.Test.YteonpcckifkafaaCrcJoin
namespace Go.Proofs.Yteonpcckifkafaa
open Go.RowKit
set_option linter.unusedVariables false

theorem mat_block (M : List Nat) (f : Nat → Nat) (h : Rep M f) : (u32s M).toArray.size = 32 := by simp [u32s, h.len]

theorem i64_low (m : Nat) (h : m < 9223372036854775808) : bits .and .i64 (m : Int) 1 = ((m % 2 : Nat) : Int) := by
  show IntKind.i64.wrap ((BitVec.ofInt 64 (m : Int) &&& BitVec.ofInt 64 1).toNat : Int) = _
  have h1 : (BitVec.ofInt 64 1).toNat = 1 := by decide
  rw [BitVec.toNat_and, ofInt_u64 m (by omega), h1, Nat.and_one_is_mod]
  exact IntWalk.i64_in _ (by omega)

/-- A block holds the matrix of k steps. -/
def MatAt (w : World) (g k : Nat) : Prop := ∃ M, Rep M (steps k) ∧ w.heap[g]? = some (.cells (u32s M).toArray 43)

set_option maxHeartbeats 2000000 in
theorem join_any (a b n : Nat) (w : World) (ha : a < 4294967296) (hb32 : b < 4294967296) (hn : n < 9223372036854775808) :
   Calls Try.prog 18 #[.int .u32 a, .int .u32 b, .int .i64 n] w fun e w' => e = .returned (.int .u32 ((steps (8 * n) a ^^^ b : Nat) : Int)) ∧ Below w.heap.size w w' := by
  go_enter Try.func18, Try.ntmps18
  go_wp2_with fail
  refine (bit_any _).mono ?_
  rintro e w1 ⟨rfl, hb1⟩
  have Hg := Lib.hid (fun z : Array Value => heap_alloc_new w1 (.cells z 43))
  have Hone := Lib.hid (u32s_one bitM)
  have Hsz := Lib.hid (show (Try.prog.info? 43).map (·.size) = some (u32s bitM).toArray.size from by rw [Try.info_mat, mat_block _ _ rep_bit])
  go_wp2_with (refine wpList_store_row 43 _ _ rfl rfl w1.heap.size (u32s bitM).toArray (u32s (List.replicate 32 0)).toArray 43 rfl rfl (Hg.out _) rfl Hone.out Hsz.out ?_)
  have hw : Below w.heap.size w ((w1.alloc (.cells (u32s (List.replicate 32 0)).toArray 43)).setRow w1.heap.size (u32s bitM).toArray) := below_setRow (hb1.alloc hb1.size _) hb1.size _
  have hm : MatAt ((w1.alloc (.cells (u32s (List.replicate 32 0)).toArray 43)).setRow w1.heap.size (u32s bitM).toArray) w1.heap.size 1 := ⟨bitM, by have := rep_bit; exact this, setRow_heap _ _ _ _ _ _ (Hg.out _)⟩
  have Hw := Lib.hid hw; clear hw
  have Hm := Lib.hid hm; clear hm
  have hG := hb1.size
  generalize w1.heap.size = g at *
  clear Hg Hone Hsz hb1
  go_loopw [9] (fun i wr => ∃ j : Nat, j ≤ 3 ∧ i = .int .i64 j ∧ Below w.heap.size w wr ∧ Hid (MatAt wr g (2 ^ j))) (fun i _ => 3 - (intOf i).toNat)
  case atStart => exact ⟨0, by omega, rfl, Hw.out, Hm.out⟩
  case round =>
    obtain ⟨j, hj, rfl, hb, hm⟩ := hrel
    by_cases hj3 : j < 3
    · obtain ⟨M, hR, hg⟩ := hm.out
      have hsz := (Array.getElem?_eq_some_iff.1 hg).1
      have Hg := Lib.hid hg; clear hg
      have HR := Lib.hid hR; clear hR
      have Hsz := Lib.hid (show (Try.prog.info? 43).map (·.size) = some (u32s M).toArray.size from by rw [Try.info_mat, mat_block _ _ HR.out])
      go_wp2_with (refine wpList_load_row rfl 43 _ rfl g rfl 43 (u32s M).toArray (0, 0) _ Hg.out Try.underlying43 rfl Hsz.out ?_)
      refine (square_any M _ HR.out.mat).mono ?_
      rintro e w2 ⟨rfl, hb2⟩
      have Hg2 := Lib.hid ((hb2.block g hsz).trans Hg.out)
      have hR2 := HR.out.square
      have Hone := Lib.hid (u32s_one (squareM M))
      have Hs2 := Lib.hid (show (u32s (squareM M)).toArray.size = (u32s M).toArray.size from by rw [mat_block _ _ hR2, mat_block _ _ HR.out])
      have Hsz2 := Lib.hid (show (Try.prog.info? 43).map (·.size) = some (u32s (squareM M)).toArray.size from by rw [Try.info_mat, mat_block _ _ hR2])
      clear hR2
      go_wp2_with (refine wpList_store_row 43 _ _ rfl rfl g (u32s (squareM M)).toArray (u32s M).toArray 43 rfl rfl Hg2.out Hs2.out Hone.out Hsz2.out ?_)
      go_roundw
      case rel =>
        refine ⟨j + 1, by omega, by go_num, below_setRow (hb.trans (hb2.mono hb.size)) hG _, squareM M, ?_, setRow_heap _ _ _ _ _ _ Hg2.out⟩
        have := rep_steps_square HR.out
        rw [Nat.pow_succ, Nat.mul_two]
        exact this
      case measure => simp [intOf]; omega
    · obtain rfl : j = 3 := by omega
      rw [show ((3 : Nat) : Int) = 3 from rfl]
      have H8 := Lib.hid (show steps (8 * n) a = steps (2 ^ 3 * n) a from rfl)
      generalize 2 ^ 3 = k0 at *
      generalize hTd : steps (8 * n) a = T at *
      have HTd := Lib.hid hTd; clear hTd
      go_wp2
      go_loopw [0, 2] (fun x i wr => ∃ y m k : Nat, x = .int .u32 y ∧ i = .int .i64 m ∧ y < 4294967296 ∧ m < 9223372036854775808 ∧ Below w.heap.size w wr ∧ Hid (MatAt wr g k) ∧ Hid (T = steps (k * m) y)) (fun _ i _ => (intOf i).toNat)
      case atStart => exact ⟨a, n, k0, rfl, rfl, ha, hn, hb, hm, H8⟩
      case round =>
        obtain ⟨y, m, k, rfl, rfl, hy, hmm, hb, hm, hT⟩ := hrel
        by_cases hm0 : 0 < m
        · obtain ⟨M, hR, hg⟩ := hm.out
          have hsz := (Array.getElem?_eq_some_iff.1 hg).1
          have Hg := Lib.hid hg; clear hg
          have HR := Lib.hid hR; clear hR
          have Hsz := Lib.hid (show (Try.prog.info? 43).map (·.size) = some (u32s M).toArray.size from by rw [Try.info_mat, mat_block _ _ HR.out])
          have hJ := join_round k m y
          have hlow := i64_low m hmm
          rcases Nat.mod_two_eq_zero_or_one m with hpar | hpar
          · rw [if_neg (by omega)] at hJ
            have hbit : (bits .and .i64 (m : Int) 1 == 1) = false := by rw [hlow, hpar]; rfl
            have HJ := Lib.hid hJ; clear hJ hlow hpar
            go_wp2_with (refine wpList_load_row rfl 43 _ rfl g rfl 43 (u32s M).toArray (0, 0) _ Hg.out Try.underlying43 rfl Hsz.out ?_)
            refine (square_any M _ HR.out.mat).mono ?_
            rintro e w2 ⟨rfl, hb2⟩
            have Hg2 := Lib.hid ((hb2.block g hsz).trans Hg.out)
            have hR2 := HR.out.square
            have Hone := Lib.hid (u32s_one (squareM M))
            have Hs2 := Lib.hid (show (u32s (squareM M)).toArray.size = (u32s M).toArray.size from by rw [mat_block _ _ hR2, mat_block _ _ HR.out])
            have Hsz2 := Lib.hid (show (Try.prog.info? 43).map (·.size) = some (u32s (squareM M)).toArray.size from by rw [Try.info_mat, mat_block _ _ hR2])
            clear hR2
            go_wp2_with (refine wpList_store_row 43 _ _ rfl rfl g (u32s (squareM M)).toArray (u32s M).toArray 43 rfl rfl Hg2.out Hs2.out Hone.out Hsz2.out ?_)
            go_roundw
            case rel =>
              exact ⟨y, m / 2, k + k, rfl, by go_num, hy, by omega, below_setRow (hb.trans (hb2.mono hb.size)) hG _, ⟨squareM M, rep_steps_square HR.out, setRow_heap _ _ _ _ _ _ Hg2.out⟩, hT.out.trans HJ.out⟩
            case measure => simp [intOf]; omega
          · rw [if_pos hpar] at hJ
            have hbit : (bits .and .i64 (m : Int) 1 == 1) = true := by rw [hlow, hpar]; rfl
            have HJ := Lib.hid hJ; clear hJ hlow hpar
            go_wp2_with (refine wpList_load_row rfl 43 _ rfl g rfl 43 (u32s M).toArray (0, 0) _ Hg.out Try.underlying43 rfl Hsz.out ?_)
            refine (apply_any M y _ HR.out.mat hy).mono ?_
            rintro e w3 ⟨rfl, rfl⟩
            have HA := Lib.hid (show applyM M y = steps k y from HR.out.apply y hy)
            rw [HA.out]
            have Hgx := Lib.hid ((Below.heap_alloc wr (.cells (u32s M).toArray 43) g hsz).trans Hg.out)
            have hszx : g < (wr.alloc (.cells (u32s M).toArray 43)).heap.size := by simp only [World.size_alloc]; omega
            have hbx := hb.alloc hb.size (.cells (u32s M).toArray 43)
            have hyy := steps_lt k hy
            generalize wr.alloc (.cells (u32s M).toArray 43) = wx at *
            clear Hg hsz hb
            go_wp2_with (refine wpList_load_row rfl 43 _ rfl g rfl 43 (u32s M).toArray (0, 0) _ Hgx.out Try.underlying43 rfl Hsz.out ?_)
            refine (square_any M _ HR.out.mat).mono ?_
            rintro e w2 ⟨rfl, hb2⟩
            have Hg2 := Lib.hid ((hb2.block g hszx).trans Hgx.out)
            have hR2 := HR.out.square
            have Hone := Lib.hid (u32s_one (squareM M))
            have Hs2 := Lib.hid (show (u32s (squareM M)).toArray.size = (u32s M).toArray.size from by rw [mat_block _ _ hR2, mat_block _ _ HR.out])
            have Hsz2 := Lib.hid (show (Try.prog.info? 43).map (·.size) = some (u32s (squareM M)).toArray.size from by rw [Try.info_mat, mat_block _ _ hR2])
            clear hR2
            go_wp2_with (refine wpList_store_row 43 _ _ rfl rfl g (u32s (squareM M)).toArray (u32s M).toArray 43 rfl rfl Hg2.out Hs2.out Hone.out Hsz2.out ?_)
            go_roundw
            case rel =>
              exact ⟨steps k y, m / 2, k + k, rfl, by go_num, hyy, by omega, below_setRow (hbx.trans (hb2.mono hbx.size)) hG _, ⟨squareM M, rep_steps_square HR.out, setRow_heap _ _ _ _ _ _ Hg2.out⟩, hT.out.trans HJ.out⟩
            case measure => simp [intOf]; omega
        · obtain rfl : m = 0 := by omega
          have hX := Lib.hid (u32_xor_nat y b hy hb32)
          have h0 := hT.out
          rw [Nat.mul_zero] at h0
          have H0 := Lib.hid (HTd.out.trans h0); clear h0
          go_wp2
          rw [hX.out]
          go_ret
          exact ⟨by rw [H0.out]; rfl, by assumption⟩

end Go.Proofs.Yteonpcckifkafaa
