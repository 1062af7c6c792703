/- Walks and laws, joined: La37. -/
import Derived.Test.YtkkdlgcfcbaibaaGreatDoorLa32
import Derived.Test.YtkkdlgcfcbaibaaGreatDoorLa26
import Derived.Test.YtkkdlgcfcbaibaaGreatDoorLa17
import Derived.Test.YtkkdlgcfcbaibaaGreatDoorLa36
import Derived.Test.YtkkdlgcfcbaibaaGreatDoorLa14
import Derived.Test.YtkkdlgcfcbaibaaGreatDoorLa18
import Derived.Test.YtkkdlgcfcbaibaaGreatDoorLa27
set_option linter.unusedVariables false
namespace Go.Proofs.YtkkdlgcfcbaibaaGreatDoor
section
open Go.RowKit Go.Maps
theorem equalI_any (b1 b2 : Nat) (u v : Value) (P Q : List Nat) (w : World) (hp : w.ownsRow b1 3 1 u P.length (i64C P)) (hq : w.ownsRow b2 3 1 v Q.length (i64C Q)) (lp : P.length ≤ 1000) (lq : Q.length ≤ 1000) :
 Calls Tryz.prog 15 #[u, v] w fun e w' => e = .returned (.bool (decide (P = Q))) ∧ Below w.heap.size w w' := by
 have hP := hp; have hQ := hq
 obtain ⟨a, c, rfl⟩ := own_slice hp
 obtain ⟨a', c', rfl⟩ := own_slice hq
 by_cases hl : P.length = Q.length
 · by_cases h0 : P.length = 0
   · obtain rfl : P = [] := List.length_eq_zero_iff.1 h0
     obtain rfl : Q = [] := List.length_eq_zero_iff.1 hl.symm
     refine (Tryz.slices_Equal_int_empty a a' c 0 c' w (by omega)).mono ?_
     rintro e w' ⟨rfl, rfl⟩
     exact ⟨rfl, Below.refl _ _⟩
   · rcases hp.2 with ⟨h, h'⟩ | ⟨g, cap, cur, h, _⟩
     · omega
     · cases h
       rcases hq.2 with ⟨h, h'⟩ | ⟨g', cap', cur', h, _⟩
       · omega
       · cases h
         have c1 : ∀ j, j < (P.map fun (x : Nat) => (x : Int)).length → w.cell? ⟨g, 0 + j, none⟩ = some (.int .i64 ((P.map fun (x : Nat) => (x : Int)).getD j 0)) := fun j hj => by
          have hj' : j < P.length := by simpa using hj
          have := hP.cells (g := g) rfl j _ (i64C_get P j hj')
          rw [add_at] at this
          rw [this]
          simp [nth, hj']
         have c2 : ∀ j, j < (Q.map fun (x : Nat) => (x : Int)).length → w.cell? ⟨g', 0 + j, none⟩ = some (.int .i64 ((Q.map fun (x : Nat) => (x : Int)).getD j 0)) := fun j hj => by
          have hj' : j < Q.length := by simpa using hj
          have := hQ.cells (g := g') rfl j _ (i64C_get Q j hj')
          rw [add_at] at this
          rw [this]
          simp [nth, hj']
         refine (Tryz.slices_Equal_int g 0 P.length c g' 0 Q.length c' (P.map fun (x : Nat) => (x : Int)) (Q.map fun (x : Nat) => (x : Int)) w (by simp) (by simp) (by omega) (by omega) c1 c2).mono ?_
         rintro e w' ⟨rfl, q, rfl⟩
         refine ⟨ret_bool ?_, ⟨rfl, rfl, rfl, Nat.le_refl _, fun _ _ => rfl⟩⟩
         rw [List.take_of_length_le (by simp), List.take_of_length_le (by simp)]
         by_cases e : P = Q
         · subst e; simp
         · rw [decide_eq_false e, beq_eq_false_iff_ne]
           intro h
           apply e
           have := congrArg (List.map Int.toNat) h
           simpa [List.map_map, Function.comp_def] using this
 · refine (Tryz.slices_Equal_int_lens a a' P.length c Q.length c' w hl).mono ?_
   rintro e w' ⟨rfl, rfl⟩
   exact ⟨ret_bool (by rw [decide_eq_false (fun e => hl (by rw [e]))]), Below.refl _ _⟩
theorem nodup_len : ∀ {L M : List Nat}, L.Nodup → (∀ x ∈ L, x ∈ M) → L.length ≤ M.length
 | [], _, _, _ => Nat.zero_le _
 | a :: l, M, hn, hs => by
   obtain ⟨h1, h2⟩ := List.nodup_cons.1 hn
   have ha := hs a (by simp)
   have h3 := nodup_len (M := M.erase a) h2 (fun x hx => (List.mem_erase_of_ne (fun e => h1 (by rw [← e]; exact hx))).2 (hs x (by simp [hx])))
   rw [List.length_erase_of_mem ha] at h3
   have : 0 < M.length := List.length_pos_of_mem ha
   simp
   omega
set_option maxRecDepth 100000 in
set_option maxHeartbeats 8000000 in
theorem starts_any (a : Option Addr) (n c : Nat) (k : Kno) (w : World) (hE : Frags w a n c k) (hL : LtK k) (hF : KnoFits k) (hG : ∀ f ∈ k, Good f.1) (hS : (startsK k).length ≤ 10000) :
 Calls Tryz.prog 156 #[.slice a n c] w fun e w' => (∃ y, e = .returned y ∧ w'.ownsRow w.heap.size 24 1 y (startsK k).length (u64C (startsK k))) ∧ Below w.heap.size w w' := by
 have HE := Lib.hid hE; have HL := Lib.hid hL; have HF := Lib.hid hF; have HG := Lib.hid hG
 have HSl := Lib.hid hS
 clear hS
 have Hl := Lib.hid hE.len
 have hn5 : n ≤ 500 := by rw [← hE.len]; exact hF.len
 have hmm := @run_makeMap Tryz.prog
 obtain ⟨B, hBe⟩ : ∃ B, B = w.heap.size := ⟨_, rfl⟩
 have HBe := Lib.hid hBe
 have Hm0 := Lib.hid (show (w.alloc (.map #[] 0)).ownsMap Tryz.prog 24 rB B 0 (.map []) from by rw [hBe]; exact World.ownsMap_made _ _ _ _)
 have Hb0 := Lib.hid (show Below B w (w.alloc (.map #[] 0)) from by rw [hBe]; exact (Below.refl _ _).alloc (Nat.le_refl _) _)
 have hkz : keyOf Tryz.prog 24 (.int .u64 0) = some (.int .u64 0) := keyOfU (x := 0) (by omega)
 clear hE hL hF hG
 go_enter Tryz.func156, Tryz.ntmps156
 go_wp2_with (first | (rw [← hBe]; refine wpList_insert_own _ rfl _ _ _ 243 rfl 24 4 keyU Tryz.underlying243 rB B 0 (.map []) rfl Hm0.out (by unfold maxLen; omega) _ _ _ rfl rfl hkz (.lit (.bool true)) [] rfl ?_; intro w1 ho1 hg1))
 have Hb1 := Lib.hid (Hb0.out.grown hg1 (by have := Hm0.out.lt; omega) (fun k hk => by cases hk; exact Nat.le_refl _))
 have HS1 := Lib.hid (show SetS w1 B 1 _ (bndTo k 0 0) from ⟨ho1, fun r => by
  rw [bndTo_start, show Lit.int .u64 (0 : Int) = Lit.int .u64 ((0 : Nat) : Int) from rfl]
  by_cases e : r = 0
  · subst e; rw [has_put_same isMap_empty (show WideAt.IsKeyLit (.int .u64 ((0 : Nat) : Int)) from trivial)]; simp
  · rw [has_put_other (litU_inj (r := r) (x := 0) e)]; simp [e, Maps.has]⟩)
 clear ho1 hg1 hBe Hm0 Hb0
 go_wp2
 rw [← HBe.out]
 go_loopw [5, 7, 8, 9, 19, 26] (fun _ _ _ _ i _ wr => ∃ d : Nat, d ≤ n ∧ i = .int .i64 d ∧ Hid (Below B w wr) ∧ Hid (∃ N D, N ≤ 1 + 1000 * d ∧ SetS wr B N D (bndTo k d 0))) (fun _ _ _ _ i _ _ => n - (intOf i).toNat)
 case atStart => exact ⟨0, by omega, rfl, Hb1.out, 1, _, by omega, HS1.out⟩
 case round =>
  obtain ⟨d, hd, rfl, Hb, hS⟩ := hrel
  obtain ⟨N, D, hN, hS⟩ := hS.out
  have HS := Lib.hid hS
  clear hS
  by_cases hdn : d < n
  · have hdk : d < k.length := by rw [Hl.out]; exact hdn
    obtain ⟨bb, oo, rfl⟩ := HE.out.some (by omega)
    obtain ⟨x, m, cc, y, m', c', hq⟩ := HE.out.fix hdn
    rw [← HBe.out] at hq
    obtain ⟨q1, hI, q2, -⟩ := hq _ Hb.out
    have hit := HF.out.items _ (nthF_mem hdk)
    have Hnx := Lib.hid (bndTo_next hdk)
    have Hst := Lib.hid (fun e (he : e < (nthF k d).1.length) => bndTo_step (k := k) (d := d) he)
    have hBwr : B ≤ wr.heap.size := by have := Hb.out.size; have := HBe.out; omega
    have hal : Below wr.heap.size wr (wr.alloc (.cells #[.slice x m cc, .slice y m' c'] 39)) := (Below.refl _ _).alloc (Nat.le_refl _) _
    obtain ⟨x0, x1⟩ := box2' wr (.slice x m cc) (.slice y m' c') 39 _ (Below.refl _ _)
    have Hb2 := Lib.hid (Hb.out.trans (hal.mono hBwr))
    have HS2 := Lib.hid (HS.out.kept hal)
    have HQ := Lib.hid (fun w' (h : Below B w w') => (hq w' h).2.1)
    have hlm := hI.len
    have h0 : (0 : Int) ≤ d := by omega
    have h04 : (d : Int) < (n : Int) := by omega
    have hm63 : m ≤ 500 := by omega
    clear hq hI hal Hb HS
    generalize nthF k d = f at *
    go_wp2
    clear x0 x1 q1 q2
    generalize wr.alloc (.cells #[.slice x m cc, .slice y m' c'] 39) = w2 at *
    clear hBwr
    go_loopw [7, 8, 9, 26] (fun _ _ _ i wr => ∃ e : Nat, e ≤ m ∧ i = .int .i64 e ∧ Hid (Below B w wr) ∧ Hid (∃ N D, N ≤ 1 + 1000 * d + 2 * e ∧ SetS wr B N D (bndTo k d e))) (fun _ _ _ i _ => m - (intOf i).toNat)
    case atStart => exact ⟨0, by omega, rfl, Hb2.out, N, D, by omega, HS2.out⟩
    case round =>
     obtain ⟨e, he, rfl, Hb, hS⟩ := hrel
     obtain ⟨N, D, hN, hS⟩ := hS.out
     have HS := Lib.hid hS
     clear hS
     by_cases hem : e < m
     · have hek : e < f.1.length := by omega
       obtain ⟨bi, oi, rfl, hcell⟩ := (HQ.out _ Hb.out).cells (by omega)
       obtain ⟨c0, c1⟩ := hcell e hem
       have hlt := (HQ.out _ Hb.out).lt _ (nthI_mem hek)
       have Hse := Lib.hid (Hst.out e hek)
       have hBwr : B ≤ wr.heap.size := by have := Hb.out.size; have := HBe.out; omega
       clear hcell
       generalize nthI f.1 e = s at *
       obtain ⟨lo, hi⟩ := s
       simp only at c0 c1 hlt Hse
       have hal : Below wr.heap.size wr (wr.alloc (.cells #[.int .u64 lo, .int .u64 hi] 73)) := (Below.refl _ _).alloc (Nat.le_refl _) _
       obtain ⟨y0, y1⟩ := box2' wr (.int .u64 lo) (.int .u64 hi) 73 _ (Below.refl _ _)
       have hr1 : (wr.alloc (.cells #[.int .u64 lo, .int .u64 hi] 73)).heap[wr.heap.size]? = some (.cells #[.int .u64 lo, .int .u64 hi] 73) := row_new rfl
       have HS3 := Lib.hid (HS.out.kept hal)
       have HmB : B < wr.heap.size := HS.out.own.lt
       have Hb3 := Lib.hid (Hb.out.trans (hal.mono hBwr))
       have Hr1 := Lib.hid hr1
       clear hal hr1
       go_wp2_with (at_mapUpdate; refine wpList_mapUpdate_own _ rfl _ _ _ 243 rfl 24 4 keyU Tryz.underlying243 rB B N D rfl HS3.out.own (by unfold maxLen; omega) _ _ _ rfl rfl (keyOfU hlt.1) (.lit (.bool true)) [] rfl ?_; intro w4 ho4 hg4; have z1 := (World.cell?_of_block (a := ⟨wr.heap.size, 1, none⟩) (hg4.block wr.heap.size (by simp) (by simp; omega))).trans (cells_cell (i := 1) Hr1.out rfl))
       have HS4 := Lib.hid (HS3.out.put (S' := fun x => bndTo k d e x ∨ x = lo) ho4 (fun r => Iff.rfl))
       have Hb4 := Lib.hid (Hb3.out.grown hg4 (by have := HS3.out.own.lt; omega) (fun k hk => by cases hk; exact Nat.le_refl _))
       clear ho4 hg4 z1 y0 y1 c0 c1
       by_cases hmx : hi < 18446744073709551615
       · refine (next_lt hi hmx _).mono ?_
         rintro e' w5 ⟨rfl, hb5⟩
         have HS5 := Lib.hid (HS4.out.kept hb5)
         have Hb5 := Lib.hid (Hb4.out.trans (hb5.mono (by have := HS4.out.own.lt; omega)))
         have hh64 : hi + 1 < 18446744073709551616 := by omega
         clear hb5
         go_wp2_with (at_mapUpdate; refine wpList_mapUpdate_own _ rfl _ _ _ 243 rfl 24 4 keyU Tryz.underlying243 rB B _ _ rfl HS5.out.own (by unfold maxLen; omega) _ _ _ rfl rfl (keyOfU hh64) (.lit (.bool true)) [] rfl ?_; intro w6 ho6 hg6)
         have HS6 := Lib.hid (HS5.out.put (S' := bndTo k d (e + 1)) ho6 (fun r => by rw [Hse.out r]; simp [hmx]))
         have Hb6 := Lib.hid (Hb5.out.grown hg6 (by have := HS5.out.own.lt; omega) (fun k hk => by cases hk; exact Nat.le_refl _))
         clear ho6 hg6
         go_roundw
         case rel => exact ⟨e + 1, by omega, by go_num, Hb6.out, _, _, by omega, HS6.out⟩
         case measure => simp [intOf]; omega
       · obtain rfl : hi = 18446744073709551615 := by omega
         refine (next_max _).mono ?_
         rintro e' w5 ⟨rfl, hb5⟩
         have HS5 := Lib.hid ((HS4.out.kept hb5).congr (S' := bndTo k d (e + 1)) (fun r => by rw [Hse.out r]; simp))
         have Hb5 := Lib.hid (Hb4.out.trans (hb5.mono (by have := HS4.out.own.lt; omega)))
         clear hb5
         go_wp2
         go_roundw
         case rel => exact ⟨e + 1, by omega, by go_num, Hb5.out, _, _, by omega, HS5.out⟩
         case measure => simp [intOf]; omega
     · obtain rfl : e = m := by omega
       have HS7 := Lib.hid (HS.out.congr (S' := bndTo k (d + 1) 0) (fun r => by rw [← Hnx.out r, hlm]))
       clear HS
       go_wp2
       go_roundw
       case rel => exact ⟨d + 1, by omega, by go_num, Hb.out, _, _, by omega, HS7.out⟩
       case measure => simp [intOf]; omega
  · obtain rfl : d = n := by omega
    have HS1 := Lib.hid (HS.out.congr (S' := fun r => r ∈ allK k) (fun r => by rw [← Hl.out]; exact bndTo_all k r))
    clear HS
    have hmem : ∀ f ∈ k, Good f.1 ∧ f.1.length ≤ 1000000 := fun f hf => ⟨HG.out f hf, by have := HF.out.items f hf; omega⟩
    have HM := Lib.hid (fun (t : Nat) (w' : World) (h : Below B w w') => scoMembers_any a d c t k w' (HE.out.below (by rw [← HBe.out]; exact h)) hmem (by omega))
    have HML := Lib.hid (fun t => show (membersK k t).length ≤ 500 from by
     have := memTo_len k t k.length
     have h2 : membersK k t = memTo k t k.length := rfl
     rw [h2]
     have := Hl.out
     omega)
    have hNm : N < maxLen := by unfold maxLen; omega
    clear hmem hmm
    go_wp2_with (at_range; refine wpList_range_own _ rfl _ _ rfl 24 4 keyU Tryz.underlying243 rB B N D rfl HS1.out.own ?_; intro w3 hrg3 hg3 hs3)
    go_frame
    obtain ⟨R, hR⟩ : ∃ R, R = wr.heap.size := ⟨_, rfl⟩
    rw [← hR] at hrg3 ⊢
    have HR := Lib.hid hR
    have hBR : B < R := by rw [hR]; exact HS1.out.own.lt
    have Hb3 := Lib.hid (Hb.out.grown hg3 (by omega) (fun k hk => by cases hk))
    have HSf := Lib.hid (Sift.start HS1.out.keys)
    have Hrg3 := Lib.hid hrg3
    clear hR hrg3 hg3 hs3 HS1 Hb
    go_loopw [10, 11, 12] (fun _ _ _ wr => ∃ (left : Lit → Bool) (cnt : Nat) (D : DataW Value), Hid (wr.ranges Tryz.prog 24 rB B R N D left cnt) ∧ Hid (Sift k D left) ∧ Hid (Below B w wr)) (fun _ _ _ wr => wr.rangeLeft B R)
    case atStart => exact ⟨_, _, D, Hrg3.out, HSf.out, Hb3.out⟩
    case round =>
     obtain ⟨left, cnt, D, Hrg, HSi, Hb⟩ := hrel
     have Hrg := Lib.hid Hrg.out
     go_wp2_with (at_next; refine wpList_next_U rfl _ rfl rB B R N D left cnt rfl Hrg.out ?_ ?_)
     · intro hl0
       have HK := Lib.hid (HSi.out.all hl0)
       have Hown := Lib.hid Hrg.out.owns
       clear hl0 Hrg HSi Hb3 HSf Hrg3 HM HML
       go_wp2_with (at_range; refine wpList_range_own _ rfl _ _ rfl 24 4 keyU Tryz.underlying243 rB B N D rfl Hown.out ?_; intro w3 hrg3 hg3 hs3)
       go_frame
       obtain ⟨R2, hR2⟩ : ∃ R2, R2 = wr.heap.size := ⟨_, rfl⟩
       rw [← hR2] at hrg3 hs3 ⊢
       have hBR2 : B < R2 := by rw [hR2]; exact Hown.out.lt
       have Hb3 := Lib.hid (Hb.out.grown hg3 (by omega) (fun k hk => by cases hk))
       have Hrg3 := Lib.hid hrg3
       have Hs3 := Lib.hid hs3
       clear hR2 hrg3 hg3 hs3 Hown Hb
       go_loopw [13, 14] (fun y _ wr => ∃ (left : Lit → Bool) (cnt : Nat) (L : List Nat), Hid (wr.ranges Tryz.prog 24 rB B R2 N D left cnt) ∧ Hid (Coll D left L) ∧ Hid (wr.ownsRow (R2 + 1) 24 1 y L.length (u64C L)) ∧ Hid (Below B w wr) ∧ R2 + 1 ≤ wr.heap.size) (fun _ _ wr => wr.rangeLeft B R2)
       case atStart => exact ⟨_, _, [], Hrg3.out, Coll.start D, World.ownsRow_nil _ _ _ _, Hb3.out, by rw [Hs3.out]; exact Nat.le_refl _⟩
       case round =>
        obtain ⟨left, cnt, L, Hrg, HC, Ho, Hb, hsw⟩ := hrel
        have Hrg := Lib.hid Hrg.out
        have Hlen := Lib.hid (show L.length ≤ 10000 from Nat.le_trans (nodup_len HC.out.nodup (fun x hx => (HK.out x).1 ((HC.out.mem x).1 hx).1)) HSl.out)
        go_wp2_with (at_next; refine wpList_next_U rfl _ rfl rB B R2 N D left cnt rfl Hrg.out ?_ ?_)
        · intro hl0
          have h0 : 0 ∈ L := (HC.out.mem 0).2 ⟨(HK.out 0).2 (startsK_zero k), hl0 _⟩
          have hS := Lib.hid (sortU_any (R2 + 1) L.length _ L wr Ho.out (List.length_pos_of_mem h0) (by have := Hlen.out; omega))
          have HF2 := Lib.hid (fun (M : List Nat) (hp : M.Perm L) (hM : M.Pairwise (· ≤ ·)) => coll_sorted HC.out hl0 HK.out hp hM)
          have Holt := Lib.hid Ho.out.lt
          obtain ⟨ya, yc, rfl⟩ := own_slice Ho.out
          clear h0 hl0 HC Hrg Ho
          go_wp2_with fail
          refine hS.out.mono ?_
          rintro e w5 ⟨rfl, M, hp, hM, ho5, hg5⟩
          have hMe := HF2.out M hp hM
          have hlen5 : L.length = (startsK k).length := by rw [← hp.length_eq, hMe]
          subst hMe
          have Ho5 := Lib.hid ho5; have Hb5 := Lib.hid (Hb.out.grown hg5 (by omega) (fun k hk => by have := (Holt.out k hk).1; omega))
          clear hp hM ho5 hg5
          go_wp2
          go_ret
          refine ⟨⟨_, rfl, ?_⟩, by rw [← HBe.out]; exact Hb5.out⟩
          rw [← hlen5, ← HBe.out]
          exact own_mono Ho5.out (by omega)
        · intro x u w4 cnt4 hx hlx hhx hrg4 hlt4 hg4 hs4 hen
          have HC4 := Lib.hid (HC.out.step hhx hlx)
          have Hb4 := Lib.hid (Hb.out.grown hg4 (by have := Hrg.out.owns.lt; omega) (fun k hk => by cases hk; omega))
          have Ho4 := Lib.hid (own_same (w' := w4) Ho.out (fun k hk1 hk2 => hg4.block k hk2 (by simp; omega)))
          have Hrg4 := Lib.hid hrg4; have Hlt4 := Lib.hid hlt4
          have hs4' : R2 + 1 ≤ w4.heap.size := by omega
          have hal : Below w4.heap.size w4 (w4.alloc (.cells #[.int .u64 x] 24)) := (Below.refl _ _).alloc (Nat.le_refl _) _
          have Hal := Lib.hid hal
          clear hlx hhx hrg4 hlt4 hg4 hs4 hal
          go_wp2_with (at_builtin; refine wpList_append_u64 rfl _ _ rfl rfl (R2 + 1) _ L.length L rfl (own_below Ho4.out Hal.out) _ 1 1 [x] rfl (rd_block (heap_at_new _ _ _ (by simp)) rfl rfl) (by have := Hlen.out; omega) (by simp; omega) ?_; intro v' w5 ho5 hg5)
          have hsz5 := hg5.size
          simp only [World.size_alloc] at hsz5
          have hvr : ∀ j, j ≤ R2 → some j ≠ Value.ownBlock _ := fun j hj e => by have := (Ho4.out.lt j e.symm).1; omega
          have Hrg5 := Lib.hid ((Hrg4.out.kept (grown_of_below Hal.out) (by simp) (by simp)).kept hg5 (hvr B (by omega)) (hvr R2 (Nat.le_refl _)))
          have Hb5 := Lib.hid ((Hb4.out.trans (Hal.out.mono (by omega))).grown hg5 (by simp; omega) (fun k hk => by have := (Ho4.out.lt k hk).1; omega))
          have Ho5 := Lib.hid ho5
          clear ho5 hg5 hvr
          go_roundw
          case rel => exact ⟨_, cnt4, L ++ [x], Hrg5.out, HC4.out, by rw [List.length_append]; exact Ho5.out, Hb5.out, by omega⟩
          case measure => rw [Hrg5.out.left_eq, Hrg.out.left_eq]; exact Hlt4.out
     · intro x u w4 cnt4 hx hlx hhx hrg4 hlt4 hg4 hs4 hen
       have Hb4 := Lib.hid (Hb.out.grown hg4 (by have := Hrg.out.owns.lt; omega) (fun k hk => by cases hk; omega))
       have Hrg4 := Lib.hid hrg4; have Hlt4 := Lib.hid hlt4; have Hhx := Lib.hid hhx; have Hlx := Lib.hid hlx
       have hall := ((HSi.out.keys x).1 hhx).1
       have Hall := Lib.hid hall
       clear hlx hhx hrg4 hlt4 hg4 hs4 hall
       by_cases hx0 : x = 0
       · subst hx0
         have hst : 0 ∈ startsK k := startsK_zero k
         have HSt := Lib.hid (HSi.out.stay hst)
         clear hst
         go_wp2_with fail
         refine (prev_any 0 (by omega) _).mono ?_
         rintro e w5 ⟨rfl, hb5⟩
         have Hrg5 := Lib.hid (Hrg4.out.kept (grown_of_below hb5) (by simp) (by simp))
         have Hb5 := Lib.hid (Hb4.out.trans (hb5.mono (by have := Hrg4.out.owns.lt; omega)))
         clear hb5 hen
         have hpz : predO 0 = none := rfl
         rw [hpz]
         simp only [nextV, Option.getD, Option.isSome]
         go_wp2
         go_roundw
         case rel => exact ⟨_, cnt4, D, Hrg5.out, HSt.out, Hb5.out⟩
         case measure => rw [Hrg5.out.left_eq, Hrg.out.left_eq]; exact Hlt4.out
       · have hpz : predO x = some (x - 1) := if_neg hx0
         have Hst := Lib.hid (show x ∈ startsK k ↔ membersK k (x - 1) ≠ membersK k x from by
          rw [startsK_mem]
          constructor
          · rintro ⟨-, h | h⟩
            · exact absurd h hx0
            · exact h
          · exact fun h => ⟨Hall.out, .inr h⟩)
         go_wp2_with fail
         refine (prev_any x hx _).mono ?_
         rintro e w5 ⟨rfl, hb5⟩
         have Hrg5 := Lib.hid (Hrg4.out.kept (grown_of_below hb5) (by simp) (by simp))
         have Hb5 := Lib.hid (Hb4.out.trans (hb5.mono (by have := Hrg4.out.owns.lt; omega)))
         clear hb5 hen
         rw [hpz]
         simp only [nextV, Option.getD, Option.isSome]
         obtain ⟨x', hx'⟩ : ∃ x', x' = x - 1 := ⟨_, rfl⟩
         rw [← hx'] at Hst ⊢
         clear hx' hpz
         go_wp2_with fail
         refine (HM.out x' w5 Hb5.out).mono ?_
         rintro e w6 ⟨⟨y1, rfl, ho1⟩, hb6⟩
         have Ho1 := Lib.hid ho1
         have Hb6 := Lib.hid (Hb5.out.trans (hb6.mono (by have := Hrg5.out.owns.lt; omega)))
         have Hrg6 := Lib.hid (Hrg5.out.kept (grown_of_below hb6) (by simp) (by simp))
         clear ho1 hb6
         go_wp2_with fail
         refine (HM.out x w6 Hb6.out).mono ?_
         rintro e w7 ⟨⟨y2, rfl, ho2⟩, hb7⟩
         have Ho1 := Lib.hid (own_below Ho1.out hb7)
         have Ho2 := Lib.hid ho2
         have Hb7 := Lib.hid (Hb6.out.trans (hb7.mono (by have := Hrg6.out.owns.lt; omega)))
         have Hrg7 := Lib.hid (Hrg6.out.kept (grown_of_below hb7) (by simp) (by simp))
         clear ho2 hb7
         have hC := Lib.hid (equalI_any _ _ y1 y2 _ _ w7 Ho1.out Ho2.out (by have := HML.out x'; omega) (by have := HML.out x; omega))
         go_wp2_with fail
         refine hC.out.mono ?_
         rintro e w8 ⟨rfl, hb8⟩
         have Hb8 := Lib.hid (Hb7.out.trans (hb8.mono (by have := Hrg7.out.owns.lt; omega)))
         have Hrg8 := Lib.hid (Hrg7.out.kept (grown_of_below hb8) (by simp) (by simp))
         clear hb8 hC
         obtain ⟨z, hz⟩ : ∃ z, z = decide (membersK k x' = membersK k x) := ⟨_, rfl⟩
         rw [← hz]
         have Hz := Lib.hid hz
         clear hz
         cases z with
         | true =>
          have hns : x ∉ startsK k := fun h => (Hst.out.1 h) (by simpa using Hz.out.symm)
          have HSd := Lib.hid (HSi.out.drop hns)
          clear hns
          go_wp2_with (at_delete; refine wpList_delete_ranges _ rfl _ _ 243 24 rfl 4 keyU Tryz.underlying243 rB B R N D _ cnt4 rfl Hrg8.out _ _ rfl (keyOfU hx) ?_; intro w9 cnt9 hrg9 hle9 hturn9; go_frame)
          rw [strike_twice] at hrg9
          have Hrg9 := Lib.hid hrg9
          have Hb9 := Lib.hid (Hb8.out.grown hturn9.grown (by have := Hrg8.out.owns.lt; omega) (fun k hk => by cases hk; exact Nat.le_refl _))
          clear hrg9 hturn9
          go_roundw
          case rel => exact ⟨_, cnt9, _, Hrg9.out, HSd.out, Hb9.out⟩
          case measure => rw [Hrg9.out.left_eq, Hrg.out.left_eq]; have := Hlt4.out; omega
         | false =>
          have hns : x ∈ startsK k := Hst.out.2 (by simpa using Hz.out.symm)
          have HSd := Lib.hid (HSi.out.stay hns)
          clear hns
          go_wp2
          go_roundw
          case rel => exact ⟨_, cnt4, _, Hrg8.out, HSd.out, Hb8.out⟩
          case measure => rw [Hrg8.out.left_eq, Hrg.out.left_eq]; exact Hlt4.out
end
section
open Go.RowKit
set_option maxRecDepth 20000 in
set_option maxHeartbeats 4000000 in
theorem pcs_any (a : Option Addr) (n cap : Nat) (k : Kno) (w : World) (hE : Frags w a n cap k) (hL : LtK k) (hF : KnoFits k) (hG : ∀ f ∈ k, Good f.1) (hS : (startsK k).length ≤ 10000) :
 Calls Tryz.prog 110 #[.slice a n cap] w fun x w' => OwnIv w.heap.size (piecesK k) x w' ∧ Below w.heap.size w w' := by
 have HE := Lib.hid hE
 have hC := Lib.hid (starts_any a n cap k w hE hL hF hG hS)
 have Hall := Lib.hid (pieceTo_all k)
 have Hsa := Lib.hid (startsK_asc k)
 have Hlt := Lib.hid (startsK_lt hL)
 have HLn := Lib.hid hS
 have hmem : ∀ f ∈ k, Good f.1 ∧ f.1.length ≤ 1000000 := fun f hf => ⟨hG f hf, by have := hF.items f hf; omega⟩
 have hn5 : n ≤ 500 := by rw [← hE.len]; exact hF.len
 have HM := Lib.hid (fun (t : Nat) (w' : World) (h : Below w.heap.size w w') => scoMembers_any a n cap t k w' (hE.below h) hmem hn5)
 clear hE hL hF hG hS hmem
 go_enter Tryz.func110, Tryz.ntmps110
 go_wp2_with fail
 refine hC.out.mono ?_
 rintro e w1 ⟨⟨v, rfl, ho⟩, hb1⟩
 have Hb1 := Lib.hid hb1
 obtain ⟨aU, cU, rfl, hU⟩ := u64s_own ho Hlt.out
 have HU := Lib.hid hU
 clear hb1 ho hU hC
 obtain ⟨N, hN⟩ : ∃ N, N = (startsK k).length := ⟨_, rfl⟩
 have HN := Lib.hid hN
 rw [← hN] at HU HLn Hall ⊢
 clear hN
 have hN2 : N ≤ 10000 := HLn.out
 go_wp2
 go_loopw [3, 5, 6, 7, 12] (fun y _ _ _ i wr => ∃ d : Nat, d ≤ N ∧ i = .int .i64 d ∧ Below w1.heap.size w1 wr ∧ Hid (wr.ownsRow w1.heap.size 73 2 y (pieceTo k d).length (ivC (pieceTo k d)))) (fun _ _ _ _ i _ => N - (intOf i).toNat)
 case atStart => exact ⟨0, by omega, rfl, Below.refl _ _, World.ownsRow_nil _ _ _ _⟩
 case round =>
  obtain ⟨d, hd, rfl, hb, ho⟩ := hrel
  have Hb := Lib.hid hb; clear hb
  have Hbw := Lib.hid (Hb1.out.trans (Hb.out.mono Hb1.out.size))
  by_cases hdN : d < N
  · have HUr := Lib.hid (HU.out.below Hb.out)
    have hcl := HUr.out.room
    obtain ⟨bS, oS, rfl, hcS⟩ := HUr.out.cells (by omega)
    have q1 := hcS d hdN
    have Hst := Lib.hid (pieceTo_succ (k := k) (d := d) (by rw [← HN.out]; exact hdN))
    have Hpl := Lib.hid (pieceTo_len k d)
    rw [← HN.out] at Hpl
    have hD := Lib.hid (HM.out (nth (startsK k) d) wr Hbw.out)
    have Hin := Lib.hid (show inK k (nth (startsK k) d) = decide (membersK k (nth (startsK k) d) ≠ []) from rfl)
    have Hx64 := Lib.hid (Hlt.out (nth (startsK k) d) (nth_mem (by rw [← HN.out]; exact hdN)))
    have h0 : (0 : Int) ≤ d := by omega
    have h04 : (d : Int) < (N : Int) := by omega
    have hMl : (membersK k (nth (startsK k) d)).length ≤ 9223372036854775807 := by
     have := memTo_len k (nth (startsK k) d) k.length
     have h2 : membersK k (nth (startsK k) d) = memTo k (nth (startsK k) d) k.length := rfl
     rw [h2]
     have := HE.out.len; omega
    by_cases hM : membersK k (nth (startsK k) d) = []
    · have hd1 : (((membersK k (nth (startsK k) d)).length : Int) == 0) = true := by rw [hM]; rfl
      rw [Hin.out, if_neg (by simpa using hM), List.append_nil] at Hst
      generalize pieceTo k d = P0 at *
      generalize nth (startsK k) d = x at *
      generalize membersK k x = M at *
      clear hM Hin hcS
      go_wp2_with fail
      refine hD.out.mono ?_
      rintro e w2 ⟨⟨y, rfl, ho2⟩, hb2⟩
      have Hb2w := Lib.hid (Hb.out.trans (hb2.mono Hb.out.size))
      have Ho2 := Lib.hid (own_below ho.out hb2)
      obtain ⟨am, cm, rfl⟩ := own_slice ho2
      clear ho2 hb2
      go_wp2
      go_roundw
      case rel => exact ⟨d + 1, by omega, by go_num, Hb2w.out, by rw [Hst.out]; exact Ho2.out⟩
      case measure => simp [intOf]; omega
    · have hMp : 0 < (membersK k (nth (startsK k) d)).length := List.length_pos_iff.2 hM
      have hd1 : (((membersK k (nth (startsK k) d)).length : Int) == 0) = false := by rw [beq_eq_false_iff_ne]; omega
      rw [Hin.out, if_pos (by simpa using hM)] at Hst
      by_cases hl : d + 1 < N
      · have q2 := hcS (d + 1) hl
        have hlt2 := asc_get Hsa.out (i := d) (j := d + 1) (by omega) (by rw [← HN.out]; exact hl)
        have hp : pieceOf (startsK k) d = (nth (startsK k) d, nth (startsK k) (d + 1) - 1) := by
         unfold pieceOf; rw [if_pos (by rw [← HN.out]; exact hl)]
        rw [hp] at Hst
        have hy64 := Hlt.out (nth (startsK k) (d + 1)) (nth_mem (by rw [← HN.out]; exact hl))
        generalize pieceTo k d = P0 at *
        generalize nth (startsK k) (d + 1) = y2 at *
        generalize nth (startsK k) d = x at *
        generalize membersK k x = M at *
        have hwr : IntKind.u64.wrap ((y2 : Int) - 1) = ((y2 - 1 : Nat) : Int) := by rw [IntKind.wrap_u64]; omega
        have hl1 : ((d : Int) + 1) < (N : Int) := by omega
        have q3 : wr.cell? ⟨bS, oS + (d + 1), none⟩ = some (.int .u64 (y2 : Int)) := q2
        clear hM Hin hcS hp
        go_wp2_with fail
        refine hD.out.mono ?_
        rintro e w2 ⟨⟨y, rfl, ho2⟩, hb2⟩
        have Hb2w := Lib.hid (Hb.out.trans (hb2.mono Hb.out.size))
        have Ho2 := Lib.hid (own_below ho.out hb2)
        have q4 : w2.cell? ⟨bS, oS + (d + 1), none⟩ = some (.int .u64 (y2 : Int)) := (hb2.cell (p := ⟨bS, oS + (d + 1), none⟩) (cell_lt q2)).trans q2
        obtain ⟨am, cm, rfl⟩ := own_slice ho2
        clear ho2 hb2 q2 q3 q1
        have hal : Below w2.heap.size w2 (w2.alloc (.cells #[.int .u64 x, .int .u64 ((y2 - 1 : Nat) : Int)] 73)) := (Below.refl _ _).alloc (Nat.le_refl _) _
        go_wp2_with (at_builtin; refine wpList_append_ivs rfl _ _ rfl rfl w1.heap.size _ _ P0 rfl (Ho2.out.alloc _) _ 1 _ [(x, y2 - 1)] rfl (rd_block (heap_at_new _ _ _ (by simp)) rfl rfl) (by have := Hpl.out; omega) (by have := Hb2w.out.size; simp; omega) ?_; intro v' w8 ho8 hg8)
        have Hb8 := Lib.hid (Below.grown (B := w1.heap.size) (Hb2w.out.alloc Hb2w.out.size _) hg8 (by have := Hb2w.out.size; simp; omega) (fun k hk => (Ho2.out.lt k hk).1))
        go_roundw
        case rel => exact ⟨d + 1, by omega, by go_num, Hb8.out, by rw [Hst.out, List.length_append]; exact ho8⟩
        case measure => simp [intOf]; omega
      · have hp : pieceOf (startsK k) d = (nth (startsK k) d, 18446744073709551615) := by
         unfold pieceOf; rw [if_neg (by rw [← HN.out]; exact hl)]
        rw [hp] at Hst
        generalize pieceTo k d = P0 at *
        generalize nth (startsK k) d = x at *
        generalize membersK k x = M at *
        have hl1 : ¬ ((d : Int) + 1) < (N : Int) := by omega
        clear hM Hin hcS hp
        go_wp2_with fail
        refine hD.out.mono ?_
        rintro e w2 ⟨⟨y, rfl, ho2⟩, hb2⟩
        have Hb2w := Lib.hid (Hb.out.trans (hb2.mono Hb.out.size))
        have Ho2 := Lib.hid (own_below ho.out hb2)
        obtain ⟨am, cm, rfl⟩ := own_slice ho2
        clear ho2 hb2 q1
        go_wp2_with (at_builtin; refine wpList_append_ivs rfl _ _ rfl rfl w1.heap.size _ _ P0 rfl (Ho2.out.alloc _) _ 1 _ [(x, 18446744073709551615)] rfl (rd_block (heap_at_new _ _ _ (by simp)) rfl rfl) (by have := Hpl.out; omega) (by have := Hb2w.out.size; simp; omega) ?_; intro v' w8 ho8 hg8)
        have Hb8 := Lib.hid (Below.grown (B := w1.heap.size) (Hb2w.out.alloc Hb2w.out.size _) hg8 (by have := Hb2w.out.size; simp; omega) (fun k hk => (Ho2.out.lt k hk).1))
        go_roundw
        case rel => exact ⟨d + 1, by omega, by go_num, Hb8.out, by rw [Hst.out, List.length_append]; exact ho8⟩
        case measure => simp [intOf]; omega
  · obtain rfl : d = N := by omega
    have Ho := Lib.hid ho.out
    rw [Hall.out] at Ho
    go_wp2
    go_ret
    exact ⟨⟨_, rfl, own_mono Ho.out Hb1.out.size⟩, Hbw.out⟩
def HoldR (B p : Nat) (C : Obj) (wA w' : World) : Prop := Below B wA w' ∧ w'.heap[p]? = some C
theorem HoldR.refl {B p : Nat} {C : Obj} {wA : World} (h : wA.heap[p]? = some C) : HoldR B p C wA wA := ⟨Below.refl _ _, h⟩
theorem HoldR.le {B p : Nat} {C : Obj} {wA w' : World} (h : HoldR B p C wA w') : wA.heap.size ≤ w'.heap.size := h.1.size
theorem HoldR.drew {B p : Nat} {C : Obj} {wA w' : World} (h : HoldR B p C wA w') : HoldR B p C wA w'.drew := ⟨h.1.drew, h.2⟩
theorem HoldR.alloc {B p : Nat} {C : Obj} {wA w' : World} (h : HoldR B p C wA w') (hB : B ≤ wA.heap.size) (o : Obj) : HoldR B p C wA (w'.alloc o) := ⟨h.1.alloc (Nat.le_trans hB h.1.size) o, row_old h.2⟩
theorem HoldR.below {B p : Nat} {C : Obj} {wA w' w'' : World} (h : HoldR B p C wA w') (hB : B ≤ wA.heap.size) (hb : Below w'.heap.size w' w'') : HoldR B p C wA w'' :=
 ⟨h.1.trans (hb.mono (Nat.le_trans hB h.1.size)), (hb.block p (Array.getElem?_eq_some_iff.1 h.2).1).trans h.2⟩
theorem HoldR.grown {B p : Nat} {C : Obj} {wA w' w'' : World} {row : Option Nat} (h : HoldR B p C wA w') (hB : B ≤ wA.heap.size) (hg : w'.grownBy w'' row) (hr : ∀ j, row = some j → B ≤ j ∧ j < p) : HoldR B p C wA w'' :=
 ⟨h.1.grown hg (Nat.le_trans hB h.1.size) (fun j hj => (hr j hj).1), (hg.block p (Array.getElem?_eq_some_iff.1 h.2).1 (fun e => by have := (hr p e.symm).2; omega)).trans h.2⟩
set_option maxRecDepth 20000 in
set_option maxHeartbeats 4000000 in
theorem refine_any (a : Option Addr) (n cap : Nat) (k : Kno) (w : World) (hE : Frags w a n cap k) (hJ : Joins k) (hS : (startsK k).length ≤ 10000) :
 Calls Tryz.prog 69 #[.slice a n cap] w fun x w' => (∃ y, x = .returned y ∧ OwnK w' w.heap.size 0 y (refineK k)) ∧ Below w.heap.size w w' := by
 have HE := Lib.hid hE; have HJ := Lib.hid hJ
 have hC := Lib.hid (pcs_any a n cap k w hE hJ.lt hJ.fits hJ.good hS)
 have Hall := Lib.hid (refTo_all k)
 have HLn := Lib.hid (show (piecesK k).length ≤ 10000 from by
  have h1 := pieceTo_len k (startsK k).length
  rw [pieceTo_all] at h1
  omega)
 have hPl : Lt64 (piecesK k) := fun s hs => by
  have := pieces_mem hJ.lt hs
  exact ⟨by omega, this.2.1⟩
 have HPl := Lib.hid hPl
 clear hE hJ hS hPl
 go_enter Tryz.func69, Tryz.ntmps69
 go_wp2_with fail
 refine hC.out.mono ?_
 rintro e w1 ⟨⟨v, rfl, ho⟩, hb1⟩
 have Hb1 := Lib.hid hb1
 obtain ⟨aU, cU, rfl, hU⟩ := ivs_own ho HPl.out
 have HU := Lib.hid hU
 clear hb1 ho hU hC
 obtain ⟨N, hN⟩ : ∃ N, N = (piecesK k).length := ⟨_, rfl⟩
 have HN := Lib.hid hN
 rw [← hN] at HU HLn Hall ⊢
 clear hN
 have hN2 : N ≤ 10000 := HLn.out
 go_wp2
 go_loopw [3, 5, 9] (fun y _ i wr => ∃ d : Nat, d ≤ N ∧ i = .int .i64 d ∧ Below w1.heap.size w1 wr ∧ Hid (OwnK wr w1.heap.size 0 y (refTo k d))) (fun _ _ i _ => N - (intOf i).toNat)
 case atStart => exact ⟨0, by omega, rfl, Below.refl _ _, ownK_nil _ _ _⟩
 case round =>
  obtain ⟨d, hd, rfl, hb, ho⟩ := hrel
  have Hb := Lib.hid hb; clear hb
  have Hbw := Lib.hid (Hb1.out.trans (Hb.out.mono Hb1.out.size))
  by_cases hdN : d < N
  · have hcl := HU.out.room
    have HUr := HU.out.below Hb.out
    obtain ⟨bS, oS, rfl, hcS⟩ := HUr.cells (by omega)
    obtain ⟨q1, q2⟩ := hcS d hdN
    have Hst := Lib.hid (refTo_succ (k := k) (d := d) (by rw [← HN.out]; exact hdN))
    have Hpl := Lib.hid (refTo_len k d)
    rw [← HN.out] at Hpl
    have Hs := Lib.hid (HPl.out _ (nthI_mem (show d < (piecesK k).length by rw [← HN.out]; exact hdN)))
    generalize refTo k d = R0 at *
    generalize nthI (piecesK k) d = s at *
    obtain ⟨sx, sy⟩ := s
    simp only at q1 q2 Hst Hs
    have hz0 : w.heap.size ≤ w1.heap.size := Hb1.out.size
    have hz1 : w1.heap.size ≤ wr.heap.size := Hb.out.size
    have Hlv := Lib.hid (atK_can HJ.out.lt sx).2.1
    have hrA : (wr.alloc (.cells #[.int .u64 sx, .int .u64 sy] 73)).heap[wr.heap.size]? = some (.cells #[.int .u64 sx, .int .u64 sy] 73) := row_new rfl
    have hal : Below wr.heap.size wr (wr.alloc (.cells #[.int .u64 sx, .int .u64 sy] 73)) := (Below.refl _ _).alloc (Nat.le_refl _) _
    have hoA := ho.out.below hal
    have HlA := Lib.hid (ho.out.lt)
    have HbA := Lib.hid (Hb.out.trans (hal.mono hz1))
    have hsA : (wr.alloc (.cells #[.int .u64 sx, .int .u64 sy] 73)).heap.size = wr.heap.size + 1 := by simp
    have h0 : (0 : Int) ≤ d := by omega
    have h04 : (d : Int) < (N : Int) := by omega
    clear hcS HUr hal
    go_wp2_with fail
    clear q1 q2
    obtain ⟨p, hp⟩ : ∃ p, p = wr.heap.size := ⟨_, rfl⟩
    rw [← hp] at hrA hsA HlA ⊢
    generalize wr.alloc (.cells #[.int .u64 sx, .int .u64 sy] 73) = wA at *
    have Hp := Lib.hid hp
    have hpz : w1.heap.size ≤ p := by omega
    have hzA : w1.heap.size ≤ wA.heap.size := by omega
    have HoA := Lib.hid hoA
    have HrA := Lib.hid hrA
    have HsA := Lib.hid hsA
    clear hp hoA hz1
    have r1 : ∀ w', HoldR w1.heap.size p (.cells #[.int .u64 sx, .int .u64 sy] 73) wA w' → w'.cell? ⟨p, 0, none⟩ = some (.int .u64 sx) := fun w' h => cells_cell h.2 rfl
    have r2 : ∀ w', HoldR w1.heap.size p (.cells #[.int .u64 sx, .int .u64 sy] 73) wA w' → w'.cell? ⟨p, 1, none⟩ = some (.int .u64 sy) := fun w' h => cells_cell h.2 rfl
    have hAt := Lib.hid (fun w' (h : HoldR w1.heap.size p (.cells #[.int .u64 sx, .int .u64 sy] 73) wA w') => scoAt_any a n cap sx k w' (HE.out.below (Hb1.out.trans ((HbA.out.trans h.1).mono hz0))) HJ.out)
    generalize atK k sx = V at *
    have hR0 : HoldR w1.heap.size p (.cells #[.int .u64 sx, .int .u64 sy] 73) wA wA := HoldR.refl hrA
    clear hrA hsA
    go_region_held3 (fun w' => HoldR w1.heap.size p (.cells #[.int .u64 sx, .int .u64 sy] 73) wA w') (first | assumption | exact HoldR.drew (by assumption) | exact HoldR.alloc (by assumption) hzA _) (first
     | (go_at_call 111
        refine (hAt.out _ (by assumption)).mono ?_
        rintro e w4 ⟨⟨y4, rfl, ho4⟩, hb4⟩
        have hS4 : HoldR w1.heap.size p (.cells #[.int .u64 sx, .int .u64 sy] 73) wA w4 := HoldR.below (by assumption) hzA hb4
        have hT4 : Below wA.heap.size wA w4 := Below.trans (by first | exact (Below.refl _ _).drew | exact ((Below.refl _ _).drew).alloc (by simp) _ | exact ((Below.refl _ _).alloc (Nat.le_refl _) _).drew) (hb4.mono (HoldR.le (B := w1.heap.size) (p := p) (C := .cells #[.int .u64 sx, .int .u64 sy] 73) (by assumption)))
        have Ho4 := Lib.hid (HoA.out.below hT4)
        obtain ⟨ya, yc, rfl, hV⟩ := ho4.toOwnV.entsT (base' := 0) Hlv.out
        have HV := Lib.hid hV
        first
         | (have zr := row2_new hb4)
         | (have zr := row2_newd hb4)
         | skip
        clear hb4 ho4 hV hT4)
     | (refine step_append_frg rfl (.tmp 13) (.tmp 21) rfl rfl w1.heap.size 0 _ R0 rfl (Ho4.out.below (by first | exact (Below.refl _ _).alloc (Nat.le_refl _) _ | exact ((Below.refl _ _).alloc (Nat.le_refl _) _).alloc (by simp) _)) _ 1 1 [([(sx, sy)], V)] rfl [(_, _)] (partsT_one (ivSl_row (s := (sx, sy)) (by first | exact heap_at_old _ _ _ _ (heap_at_new _ _ _ rfl) | exact heap_at_old _ _ _ _ zr) Hs.out 0) ⟨_, _, _, rfl, HV.out.steady (P := fun _ => True) (.of_below (by first | exact (Below.refl _ _).alloc (Nat.le_refl _) _ | exact ((Below.refl _ _).alloc (Nat.le_refl _) _).alloc (by simp) _)) trivial trivial⟩) rfl (rd_block (heap_at_new _ _ _ (by simp)) rfl rfl) (by have := Hpl.out; simp; omega) (by have := hS4.1.size; simp; omega) (Nat.zero_le _) ?_
        intro v8 w8 ho8 hg8 _
        have hS8 : HoldR w1.heap.size p (.cells #[.int .u64 sx, .int .u64 sy] 73) wA w8 := HoldR.grown (by assumption) hzA hg8 (fun j hj => HlA.out j hj)))
    all_goals
     go_wp2
     go_roundw
     case rel => exact ⟨d + 1, by omega, by go_num, HbA.out.trans hS8.1, by rw [Hst.out]; exact ho8⟩
     case measure => simp [intOf]; omega
  · obtain rfl : d = N := by omega
    have Ho := Lib.hid ho.out
    rw [Hall.out] at Ho
    go_wp2
    go_ret
    exact ⟨⟨_, rfl, Ho.out.lower Hb1.out.size⟩, Hbw.out⟩
end
end Go.Proofs.YtkkdlgcfcbaibaaGreatDoor
