/-
  frame.Append.
-/
import Derived.Test.YtejcakbkldecmaaDoorFrmBytes
import Derived.Test.YtejcakbkldecmaaDoorKRows
namespace Go.Proofs.YtejcakbkldecmaaDoor
open Go.RowKit
set_option linter.unusedVariables false

set_option maxRecDepth 20000 in
set_option maxHeartbeats 1000000 in
theorem appframe_any (v : Value) (n0 : Nat) (xs : List Value) (a : Option Addr) (n cap : Nat) (l : List Nat) (w0 w : World) (hB : Byts w0 a n cap l) (hb : Below w0.heap.size w0 w) (hown : w.ownsRow w0.heap.size 5 1 v n0 xs) (hn : n ≤ 100000) (hn0 : n0 ≤ 200000) :
    Calls Tryd.prog 8 #[v, .slice a n cap] w fun e w' =>
      (∃ v', e = .returned v' ∧ w'.ownsRow w0.heap.size 5 1 v' (n0 + (frameL l).length) (xs ++ u8s (frameL l))) ∧ Below w0.heap.size w0 w' := by
  have HB := Lib.hid hB
  have Ho := Lib.hid hown
  have Hb := Lib.hid hb
  have hn0' := hn
  have Hn := Lib.hid hn
  have Hn0 := Lib.hid hn0
  have He := Lib.hid (show frameL l = startL ++ vbytes n ++ l ++ sumBytes (sum l) from by rw [← hB.len]; rfl)
  have Hlen := Lib.hid (show (frameL l).length = 5 + (vbytes n).length + n + 4 from by rw [frameL_len, hB.len])
  have Hv := Lib.hid (fun v n1 xs w hown hb hn => vappend_any v n1 w0.heap.size xs n w (Nat.lt_of_le_of_lt hn0' (by decide)) hown hb hn)
  have Hvl := Lib.hid (vbytes_lt n)
  have hvl : (vbytes n).length ≤ 10 := vbF_len_le 9 n
  generalize vbytes n = L2 at *
  have hcv : (n : Int) % 18446744073709551616 = (n : Int) := by omega
  clear hB hown hn hn0' hb
  go_enter Tryd.func8, Tryd.ntmps8
  go_wp2_with fail
  refine (magic_any _).mono ?_
  rintro e w1 ⟨rfl, hb1⟩
  have Hb1 := Lib.hid (Hb.out.trans (hb1.mono Hb.out.size))
  have Ho1 := Lib.hid (own_below Ho.out hb1)
  clear hb1
  have hA : Below w0.heap.size w0 (w1.alloc (.cells #[.int .u8 75, .int .u8 78, .int .u8 87, .int .u8 76] 45)) := Hb1.out.alloc Hb1.out.size _
  obtain ⟨v2, w2, hr2, ho2, hg2⟩ := run_append_byts w0.heap.size v _ _ (Ho1.out.alloc (.cells #[.int .u8 75, .int .u8 78, .int .u8 87, .int .u8 76] 45)) (some ⟨w1.heap.size, 0, none⟩) 4 4 [75, 78, 87, 76] (byts_lit _ _ _ _ _ _ _ rfl rfl rfl (by decide) (by omega)) (by have := Hn0.out; omega) (by have := Hb1.out.size; simp only [World.size_alloc]; omega)
  have Ho2 := Lib.hid ho2
  have Hb2 := Lib.hid (hA.grown hg2 hA.size (fun k hk => (Ho1.out.lt k hk).1))
  clear ho2 hg2 hA
  have hA : Below w0.heap.size w0 (w2.alloc (.cells #[.int .u8 1] 5)) := Hb2.out.alloc Hb2.out.size _
  obtain ⟨v3, w3, hr3, ho3, hg3⟩ := run_append_byts w0.heap.size v2 _ _ (Ho2.out.alloc (.cells #[.int .u8 1] 5)) (some ⟨w2.heap.size, 0, none⟩) 1 1 [1] (byts_lit _ _ _ _ _ _ _ rfl rfl rfl (by decide) (by omega)) (by have := Hn0.out; omega) (by have := Hb2.out.size; simp only [World.size_alloc]; omega)
  have Ho3 := Lib.hid ho3
  have Hb3 := Lib.hid (hA.grown hg3 hA.size (fun k hk => (Ho2.out.lt k hk).1))
  clear ho3 hg3 hA
  go_wp2_with (at_builtin; first
    | refine wpList_append_hr _ _ 22 rfl rfl v (.slice (some ⟨w1.heap.size, 0, none⟩) 4 4) rfl rfl _ _ hr2 ?_
    | refine wpList_append_hr _ _ 22 rfl rfl v2 (.slice (some ⟨w2.heap.size, 0, none⟩) 1 1) rfl rfl _ _ hr3 ?_)
  clear hr2 hr3
  refine (Hv.out v3 _ _ _ Ho3.out Hb3.out.size (by have := Hn0.out; omega)).mono ?_
  rintro e w4 ⟨v4, rfl, ho4, hb4⟩
  have Ho4 := Lib.hid ho4
  have Hb4 := Lib.hid (Hb3.out.trans hb4)
  clear ho4 hb4
  obtain ⟨v5, w5, hr5, ho5, hg5⟩ := run_append_byts w0.heap.size v4 _ _ Ho4.out a n cap l (HB.out.below Hb4.out) (by have := Hn.out; have := Hn0.out; omega) Hb4.out.size
  have Ho5 := Lib.hid ho5
  have Hb5 := Lib.hid (Hb4.out.grown hg5 Hb4.out.size (fun k hk => (Ho4.out.lt k hk).1))
  clear ho5 hg5
  go_wp2_with (at_builtin; refine wpList_append_hr _ _ 22 rfl rfl v4 (.slice a n cap) rfl rfl _ _ hr5 ?_)
  clear hr5
  refine (sum_any a n cap l _ (HB.out.below Hb5.out)).mono ?_
  rintro e w6 ⟨rfl, hb6⟩
  have Ho6 := Lib.hid (own_below Ho5.out hb6)
  have Hb6 := Lib.hid (Hb5.out.trans (hb6.mono Hb5.out.size))
  clear hb6
  go_wp2_with fail
  refine (append_any v5 _ w0.heap.size _ (sum l) _ (sumlt HB.out.lt) Ho6.out Hb6.out.size (by have := Hn.out; have := Hn0.out; omega)).mono ?_
  rintro e w7 ⟨v7, rfl, ho7, hg7⟩
  have Ho7 := Lib.hid ho7
  have Hb7 := Lib.hid (Hb6.out.grown hg7 Hb6.out.size (fun k hk => (Ho6.out.lt k hk).1))
  clear ho7 hg7
  go_wp2_with fail
  go_ret
  refine ⟨⟨v7, rfl, ?_⟩, Hb7.out⟩
  have := Ho7.out
  rw [Hlen.out, He.out]
  simp only [u8s_append, show startL = [75, 78, 87, 76] ++ [1] from rfl, ← List.append_assoc] at this ⊢
  rw [show n0 + (5 + L2.length + n + 4) = n0 + 4 + 1 + L2.length + n + 4 by omega]
  exact this

end Go.Proofs.YtejcakbkldecmaaDoor
