/-
  Walk: CrcStates.
-/
import Derived.Test.YteonpcckifkafaaCrcAlive
namespace Go.Proofs.Yteonpcckifkafaa
open Go.RowKit Go.Joins
set_option linter.unusedVariables false

theorem put_sum (x y : List Nat) : 4294967295 ^^^ reg (4294967295 ^^^ sum x) y = sum (x ++ y) := by
  unfold sum
  rw [not_not, reg_append]

theorem sum_nil0 : (0 : Nat) = sum [] := by simp [sum, reg]

theorem sum_lt {l : List Nat} (h : ∀ x ∈ l, x < 256) : sum l < 4294967296 := not_lt (reg_lt (by omega) h)

/-- The object at block g has the checksum of x. -/
structure St (w0 w : World) (g : Nat) (x : List Nat) : Prop where
  below : Below w0.heap.size w0 w
  base : w0.heap.size ≤ g
  lt : g < w.heap.size
  cell : w.cell? ⟨g, 0, none⟩ = some (.int .u32 ((sum x : Nat) : Int))
  free : w.frozen? ⟨g, 0, none⟩ = false
  small : ∀ y ∈ x, y < 256

theorem St.set {w0 w : World} {g : Nat} {x y : List Nat} (h : St w0 w g x) (hy : ∀ z ∈ y, z < 256) : St w0 (w.setCell ⟨g, 0, none⟩ (.int .u32 ((sum y : Nat) : Int))) g y := by
  refine ⟨h.below.setCell (p := ⟨g, 0, none⟩) h.base _, h.base, by have := h.lt; simpa [World.setCell] using this, ?_, ?_, hy⟩
  · exact World.cell?_setCell_same _ _ _ (by rw [h.cell])
  · rw [World.frozen?_setCell]; exact h.free

theorem St.later {w0 w w' : World} {g : Nat} {x : List Nat} (h : St w0 w g x) (hb : Below w.heap.size w w') : St w0 w' g x := by
  refine ⟨h.below.trans (hb.mono h.below.size), h.base, Nat.lt_of_lt_of_le h.lt hb.size, ?_, ?_, h.small⟩
  · rw [hb.cell (p := ⟨g, 0, none⟩) h.lt]; exact h.cell
  · rw [hb.frozen (p := ⟨g, 0, none⟩) h.lt]; exact h.free

/-- Put, Sum and Reset of such an object. -/
theorem st_put {w0 w : World} {g : Nat} {x : List Nat} (h : St w0 w g x) (a : Option Addr) (n cap : Nat) (l : List Nat) (hB : Byts w a n cap l) :
   Calls Try.prog 15 #[.pointer (some ⟨g, 0, none⟩), .slice a n cap] w fun e w' => e = .returned (.tuple #[]) ∧ St w0 w' g (x ++ l) := by
  refine (put_any g 0 (sum x) a n cap l w hB (sum_lt h.small) h.cell h.free).mono ?_
  rintro e w' ⟨rfl, rfl⟩
  refine ⟨rfl, ?_⟩
  rw [put_sum]
  exact h.set (by intro z hz; exact (List.mem_append.1 hz).elim (h.small z) (hB.lt z))

theorem st_sum {w0 w : World} {g : Nat} {x : List Nat} (h : St w0 w g x) :
   Calls Try.prog 16 #[.pointer (some ⟨g, 0, none⟩)] w fun e w' => e = .returned (.int .u32 ((sum x : Nat) : Int)) ∧ w = w' := statesum_any _ _ _ h.cell

theorem st_reset {w0 w : World} {g : Nat} {x : List Nat} (h : St w0 w g x) :
   Calls Try.prog 17 #[.pointer (some ⟨g, 0, none⟩)] w fun e w' => e = .returned (.tuple #[]) ∧ St w0 w' g [] := by
  refine (statereset_any _ _ _ h.cell h.free).mono ?_
  rintro e w' ⟨rfl, rfl⟩
  refine ⟨rfl, ?_⟩
  have := h.set (y := []) (by simp)
  rw [← sum_nil0] at this
  exact this

set_option maxHeartbeats 2000000 in
theorem walkCrcStates (a a' : Option Addr) (n cap n' cap' : Nat) (zs zs' : List Int) (w : World) (h : InRow .u8 w a n cap zs) (h' : InRow .u8 w a' n' cap' zs') :
    Calls Try.prog 6 #[.slice a n cap, .slice a' n' cap'] w fun e w' => e = .returned (.bool true) ∧ Below w.heap.size w w' := by
  have hB := byts_row h
  have hm := Nat.le_trans hB.room hB.most
  have hB' := byts_row h'
  have hm' := Nat.le_trans hB'.room hB'.most
  generalize (zs.take n).map Int.toNat = l at *
  generalize (zs'.take n').map Int.toNat = l' at *
  clear h h'
  have HB := Lib.hid hB; clear hB
  have HB' := Lib.hid hB'; clear hB'
  by_cases hn : 1000 < n
  · go_enter Try.func6, Try.ntmps6
    go_wp2_with (go_at_call 9; refine (alive_any _).mono ?_; rintro e w1 ⟨rfl, hb⟩)
    go_ret
    exact ⟨rfl, hb⟩
  by_cases hn' : 1000 < n'
  · go_enter Try.func6, Try.ntmps6
    go_wp2_with (go_at_call 9; refine (alive_any _).mono ?_; rintro e w1 ⟨rfl, hb⟩)
    go_ret
    exact ⟨rfl, hb⟩
  · have HS0 := Lib.hid (show St w (w.alloc (.cells #[.int .u32 0] 34)) w.heap.size [] from
      ⟨(Below.refl _ _).alloc (Nat.le_refl _) _, Nat.le_refl _, by simp only [World.size_alloc]; omega, by rw [← sum_nil0]; exact World.cell?_alloc_new _ _ _ _, by exact World.frozen?_alloc_new _ _ _ _, by simp⟩)
    go_enter Try.func6, Try.ntmps6
    go_wp2_with fail
    have hz : (w.alloc (.cells #[.int .u32 0] 34)).heap.size = w.heap.size + 1 := by simp only [World.size_alloc]
    generalize (w.alloc (.cells #[.int .u32 0] 34)) = w0 at *
    clear hz
    generalize hg : w.heap.size = g at *
    have Hg := Lib.hid hg; clear hg
    refine (st_put HS0.out a n cap l (HB.out.below (by have := HS0.out.below; exact this))).mono ?_
    rintro e w1 ⟨rfl, hS1⟩
    have HS1 := Lib.hid hS1; clear hS1 HS0
    go_wp2_with fail
    refine (st_sum HS1.out).mono ?_
    rintro e w' ⟨rfl, rfl⟩
    rw [List.nil_append] at HS1
    rw [List.nil_append]
    go_wp2_with fail
    go_loopw [8, 24] (fun _ i wr => ∃ k : Nat, k ≤ n' ∧ i = .int .i64 k ∧ Hid (St w wr g (l ++ l'.take k))) (fun _ i _ => n' - (intOf i).toNat)
    case atStart => exact ⟨0, by omega, rfl, by have := HS1.out; simpa [Hid] using this⟩
    case round =>
      obtain ⟨k, hk, rfl, hS⟩ := hrel
      by_cases hkn : k < n'
      · have hBr := HB'.out.below hS.out.below
        obtain ⟨cb, co, rfl, hcell⟩ := hBr.cells (by omega)
        have hc := hcell k hkn
        have hnc : nth l' k < 256 := nth_lt hBr.lt (by omega) k
        have Ht := Lib.hid (show l ++ l'.take (k + 1) = (l ++ l'.take k) ++ [nth l' k] from by rw [take_nth l' k (by rw [hBr.len]; exact hkn), List.append_assoc])
        clear hcell hBr
        generalize nth l' k = c at *
        go_wp2_with fail
        refine (st_put (hS.out.later ((Below.refl _ _).alloc (Nat.le_refl _) _)) _ 1 1 [c] (byts_lit _ _ 1 _ [c] _ _ rfl rfl rfl (by intro x hx; simp at hx; omega) (by omega))).mono ?_
        rintro e w2 ⟨rfl, hS2⟩
        have HS2 := Lib.hid hS2; clear hS2
        go_wp2_with fail
        go_roundw
        case rel => exact ⟨k + 1, by omega, by go_num, by rw [Ht.out]; exact HS2.out⟩
        case measure => simp [intOf]; omega
      · obtain rfl : k = n' := by omega
        rw [List.take_of_length_le (by rw [HB'.out.len]; omega)] at hS
        clear HS1
        go_wp2_with fail
        refine (st_sum hS.out).mono ?_
        rintro e w' ⟨rfl, rfl⟩
        go_wp2_with fail
        refine (st_reset hS.out).mono ?_
        rintro e w2 ⟨rfl, hS2⟩
        have HS2 := Lib.hid hS2; clear hS2 hS
        go_wp2_with fail
        refine (st_put HS2.out _ _ _ l' (HB'.out.below HS2.out.below)).mono ?_
        rintro e w3 ⟨rfl, hS3⟩
        rw [List.nil_append] at hS3
        have HS3 := Lib.hid hS3; clear hS3 HS2
        go_wp2_with fail
        refine (alive_any _).mono ?_
        rintro e w4 ⟨rfl, hb4⟩
        have HS4 := Lib.hid (HS3.out.later hb4)
        clear HS3 hb4
        obtain ⟨v5, w5, hr5, ho5, hb5⟩ := run_copy_byts a n cap l (HB.out.below HS4.out.below) (by omega)
        have Ho5 := Lib.hid ho5; clear ho5
        obtain ⟨v6, w6, hr6, ho6, hg6⟩ := run_append_byts w4.heap.size v5 n _ Ho5.out a' k cap' l' ((HB'.out.below HS4.out.below).below hb5) (by omega) hb5.size
        have hb6 := hb5.grown hg6 hb5.size (fun k hk => (Ho5.out.lt k hk).1)
        clear hg6 Ho5 hb5
        rw [← u8s_append] at ho6
        obtain ⟨a6, c6, rfl, hB6⟩ := byts_own ho6 (by intro b hb; exact (List.mem_append.1 hb).elim (HB.out.lt b) (HB'.out.lt b))
        have HB6 := Lib.hid hB6
        have HS6 := Lib.hid (HS4.out.later hb6)
        clear ho6 hB6 hb6
        go_wp2_with fail
        refine (refsum_any _ _ _ l _ (HB.out.below HS4.out.below)).mono ?_
        rintro e w' ⟨rfl, rfl⟩
        clear HS4
        go_wp2_with (first | (at_builtin; refine wpList_append_hr _ _ 22 rfl rfl _ _ rfl rfl _ _ hr5 ?_) | (at_builtin; refine wpList_append_hr _ _ 22 rfl rfl _ _ rfl rfl _ _ hr6 ?_))
        clear hr5 hr6
        refine (refsum_any _ _ _ _ _ HB6.out).mono ?_
        rintro e w' ⟨rfl, rfl⟩
        go_wp2_with fail
        refine (st_sum HS6.out).mono ?_
        rintro e w' ⟨rfl, rfl⟩
        go_wp2_with fail
        refine (refsum_any _ _ _ l' _ (HB'.out.below HS6.out.below)).mono ?_
        rintro e w' ⟨rfl, rfl⟩
        go_wp2_with fail
        go_ret
        exact ⟨rfl, by have := HS6.out.below; exact this⟩

end Go.Proofs.Yteonpcckifkafaa
