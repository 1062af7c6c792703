/-
  kenningref21.Bytes, frame.Append.
-/
import Derived.Test.YtejcakbkldecmaaDoorFrmSplit2
import Derived.Test.YtejcakbkldecmaaDoorVarAppend
namespace Go.Proofs.YtejcakbkldecmaaDoor
open Go.RowKit
set_option linter.unusedVariables false

/-- The frame round a payload. -/
def frameL (l : List Nat) : List Nat := startL ++ vbytes l.length ++ l ++ sumBytes (sum l)

theorem startL_lt : ∀ x ∈ startL, x < 256 := by decide

theorem frameL_lt {l : List Nat} (h : ∀ x ∈ l, x < 256) : ∀ x ∈ frameL l, x < 256 := by
  intro x hx
  simp only [frameL, List.mem_append] at hx
  rcases hx with ((hx | hx) | hx) | hx
  · exact startL_lt x hx
  · exact vbytes_lt _ x hx
  · exact h x hx
  · exact sumBytes_lt (sumlt h) x hx

theorem frameL_len (l : List Nat) : (frameL l).length = 5 + (vbytes l.length).length + l.length + 4 := by
  simp [frameL, startL, sumBytes]
  omega

set_option maxRecDepth 20000 in
set_option maxHeartbeats 1000000 in
theorem refframe_any (a : Option Addr) (n cap : Nat) (l : List Nat) (w : World) (hB : Byts w a n cap l) (hn : n ≤ 100000) :
    Calls Tryd.prog 9 #[.slice a n cap] w fun e w' =>
      (∃ v, e = .returned v ∧ w'.ownsRow w.heap.size 5 1 v (frameL l).length (u8s (frameL l))) ∧ Below w.heap.size w w' := by
  have ho1 := World.ownsRow_lit (e := 5) (size := 1) (base := w.heap.size) w (u8s startL).toArray 5 (Nat.le_refl _) (by unfold maxLen; omega) rfl
  have HB := Lib.hid hB
  have Ho1 := Lib.hid ho1
  have hvl := vbF_len_le 9 n
  have Hn := Lib.hid hn
  have He := Lib.hid (show frameL l = startL ++ vbF 9 n ++ l ++ sumBytes (sum l) from by rw [← hB.len]; rfl)
  have Hlen := Lib.hid (show (frameL l).length = 5 + (vbF 9 n).length + n + 4 from by rw [frameL_len, hB.len]; rfl)
  have Hv := Lib.hid (fun w => refvar_any 9 n w (Nat.lt_of_le_of_lt hn (by decide)) (Nat.lt_of_le_of_lt hn (by decide)) (Nat.le_refl _))
  have Hvl := Lib.hid (vbF_lt 9 n)
  generalize vbF 9 n = L2 at *
  have hb1 : Below w.heap.size w (w.alloc (.cells (u8s startL).toArray 5)) := (Below.refl _ _).alloc (Nat.le_refl _) _
  have hcv : (n : Int) % 18446744073709551616 = (n : Int) := by omega
  clear hB ho1 hn
  go_enter Tryd.func9, Tryd.ntmps9
  go_wp2_with fail
  refine (start_any _).mono ?_
  rintro e w' ⟨rfl, rfl⟩
  go_wp2_with fail
  refine (Hv.out _).mono ?_
  rintro e w2 ⟨v2, rfl, ho2, hb2⟩
  obtain ⟨a2, c2, rfl, hB2⟩ := byts_own ho2 Hvl.out
  have Ho2 := Lib.hid (own_below Ho1.out hb2)
  have hbb := hb1.trans (hb2.mono hb1.size)
  obtain ⟨v3, w3, hr3, ho3, hg3⟩ := run_append_byts w.heap.size _ 5 _ Ho2.out a2 _ c2 _ hB2 (by omega) hbb.size
  have Ho3 := Lib.hid ho3
  have hb3 := hbb.grown hg3 hbb.size (fun k hk => (Ho2.out.lt k hk).1)
  clear hg3 hb2 ho2 hB2 ho3 hbb Ho2 Ho1 hb1
  obtain ⟨v4, w4, hr4, ho4, hg4⟩ := run_append_byts w.heap.size v3 _ _ Ho3.out a n cap l (HB.out.below hb3) (by have := Hn.out; omega) hb3.size
  have Ho4 := Lib.hid ho4
  have hb4 := hb3.grown hg4 hb3.size (fun k hk => (Ho3.out.lt k hk).1)
  clear hg4 ho4 hb3 Ho3
  go_wp2_with (at_builtin; first
    | refine wpList_append_hr _ _ 22 rfl rfl (.slice (some ⟨w.heap.size, 0, none⟩) 5 5) (.slice a2 L2.length c2) rfl rfl _ _ hr3 ?_
    | refine wpList_append_hr _ _ 22 rfl rfl v3 (.slice a n cap) rfl rfl _ _ hr4 ?_)
  clear hr3 hr4
  refine (refsum_any a n cap l _ (HB.out.below hb4)).mono ?_
  rintro e w5 ⟨rfl, rfl⟩
  go_wp2_with fail
  refine (refbytes_any (sum l) _ (sumlt HB.out.lt)).mono ?_
  rintro e w5 ⟨rfl, rfl⟩
  obtain ⟨v6, w6, hr6, ho6, hg6⟩ := run_append_byts w.heap.size v4 _ _ (Ho4.out.alloc (.cells (u8s (sumBytes (sum l))).toArray 5)) (some ⟨w4.heap.size, 0, none⟩) 4 4 (sumBytes (sum l)) (byts_lit _ _ _ _ _ _ _ rfl rfl rfl (sumBytes_lt (sumlt HB.out.lt)) (by omega)) (by have := Hn.out; omega) (by have := hb4.size; simp only [World.size_alloc]; omega)
  have Ho6 := Lib.hid ho6; clear ho6
  have hw6 : Below w.heap.size w w6 := (hb4.alloc hb4.size _).grown hg6 (by have := hb4.size; simp only [World.size_alloc]; omega) (fun k hk => (Ho4.out.lt k hk).1)
  clear hg6 hb4 Ho4
  go_wp2_with (at_builtin; refine wpList_append_hr _ _ 22 rfl rfl _ _ rfl rfl _ _ hr6 ?_)
  go_ret
  refine ⟨⟨v6, rfl, ?_⟩, hw6⟩
  rw [Hlen.out, He.out]
  have := Ho6.out
  simp only [u8s_append] at this ⊢
  exact this

end Go.Proofs.YtejcakbkldecmaaDoor
