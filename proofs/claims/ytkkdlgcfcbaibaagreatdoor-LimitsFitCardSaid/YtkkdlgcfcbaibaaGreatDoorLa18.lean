/- Walks and laws, joined: La18. -/
import Derived.Test.YtkkdlgcfcbaibaaGreatDoorLa17
import Derived.Test.YtkkdlgcfcbaibaaGreatDoorLa14
import Derived.Test.YtkkdlgcfcbaibaaGreatDoorLa06
set_option linter.unusedVariables false
namespace Go.Proofs.YtkkdlgcfcbaibaaGreatDoor
section
open Go.RowKit
theorem wpList_append_ivs {w : World} {ops : Array Oper} {rest : List Oper} {o : Oper} {a : Act} {Q : Exit → Act → World → Prop} (hgd : o.guard = none) (s x : Operand)
 (ho : o.op = .call { callee := .builtin .append, args := #[s, x], argTypes := #[28, 28] }) (hty : o.type = 28)
 (base : Nat) (v : Value) (n : Nat) (xs : List Iv) (hs : a.eval s = v) (hown : w.ownsRow base 73 2 v n (ivC xs)) (A : Option Addr) (m c : Nat) (l : List Iv) (hx : a.eval x = .slice A m c) (hr : Rd w 2 A m (ivC l)) (hb : n + m ≤ 1000000) (hbase : base ≤ w.heap.size)
 (h : ∀ v' w', w'.ownsRow base 73 2 v' (n + m) (ivC (xs ++ l)) → w.grownBy w' v.ownBlock → wpList Tryz.prog ops Q rest (a.put o.dst v') w') : wpList Tryz.prog ops Q (o :: rest) a w := by
 obtain ⟨v', w', hrun, h1, h2⟩ := run_append_iv base v n xs hown A m c l hr hb hbase
 exact wpList_append_hr _ _ _ ho (by simp [Region.wanted, hgd]) _ _ hs hx v' w' (by rw [hty]; exact hrun) (h v' w' h1 h2)
def pieceTo (k : Kno) (d : Nat) : List Iv := ((pcsL (inK k) (startsK k)).take d).filterMap fun p => if p.2 = true then some p.1 else none
theorem pieceTo_succ {k : Kno} {d : Nat} (h : d < (startsK k).length) : pieceTo k (d + 1) = pieceTo k d ++ (if inK k (nth (startsK k) d) = true then [pieceOf (startsK k) d] else []) := by
 unfold pieceTo
 have hk : d < (pcsL (inK k) (startsK k)).length := by rw [pcsL_len]; exact h
 have e := pcsL_piece (inK k) h
 rw [List.getElem?_eq_getElem hk, Option.some.injEq] at e
 rw [List.take_succ_eq_append_getElem hk, List.filterMap_append, e]
 simp only [List.filterMap_cons, List.filterMap_nil]
 cases inK k (nth (startsK k) d) <;> rfl
theorem pieceTo_all (k : Kno) : pieceTo k (startsK k).length = piecesK k := by
 unfold pieceTo piecesK
 rw [List.take_of_length_le (by rw [pcsL_len]; exact Nat.le_refl _)]
theorem pieceTo_len (k : Kno) (d : Nat) : (pieceTo k d).length ≤ (startsK k).length := by
 have h := List.length_filterMap_le (fun p : Iv × Bool => if p.2 = true then some p.1 else none) ((pcsL (inK k) (startsK k)).take d)
 rw [List.length_take, pcsL_len] at h
 unfold pieceTo
 omega
theorem startsK_len (k : Kno) : (startsK k).length ≤ (allL (k.map (·.1))).length := by
 have h := List.length_filter_le (fun x => decide (x = 0) || decide (membersK k (x - 1) ≠ membersK k x)) (allK k)
 have h2 : (allK k).length ≤ (allL (k.map (·.1))).length := asc_len (allK_asc k) (fun y hy => (sortA_mem (allL (k.map fun f : Frg => f.1)) y).1 hy)
 unfold startsK
 omega
theorem piecesK_len (k : Kno) : (piecesK k).length ≤ (allL (k.map (·.1))).length := by
 have h1 := pieceTo_len k (startsK k).length
 rw [pieceTo_all] at h1
 have h2 := startsK_len k
 omega
set_option maxRecDepth 20000 in
set_option maxHeartbeats 4000000 in
theorem refPieces12_any (a : Option Addr) (n cap : Nat) (k : Kno) (w : World) (hE : Frags w a n cap k) (hL : LtK k) (hn : n ≤ 500) (hA : (allL (k.map (·.1))).length ≤ 2000) :
 Calls Tryz.prog 144 #[.slice a n cap] w fun x w' => OwnIv w.heap.size (piecesK k) x w' ∧ Below w.heap.size w w' := by
 have HE := Lib.hid hE
 have hC := Lib.hid (refStarts12_any a n cap k w hE hL hn hA)
 have Hall := Lib.hid (pieceTo_all k)
 have Hsa := Lib.hid (startsK_asc k)
 have Hlt := Lib.hid (startsK_lt hL)
 have HLn := Lib.hid (Nat.le_trans (startsK_len k) hA)
 clear hE hL hA
 go_enter Tryz.func144, Tryz.ntmps144
 go_wp2_with fail
 refine hC.out.mono ?_
 rintro e w1 ⟨⟨v, rfl, ho⟩, hb1⟩
 have Hb1 := Lib.hid hb1
 obtain ⟨aU, cU, rfl, hU⟩ := u64s_own ho Hlt.out
 have HU := Lib.hid hU
 clear hb1 ho hU hC
 obtain ⟨N, hN⟩ : ∃ N, N = (startsK k).length := ⟨_, rfl⟩
 have HN := Lib.hid hN
 rw [← hN] at HU HLn Hall ⊢
 clear hN
 have hN2 : N ≤ 2000 := HLn.out
 go_wp2
 go_loopw [4, 5] (fun y i wr => ∃ d : Nat, d ≤ N ∧ i = .int .i64 d ∧ Below w1.heap.size w1 wr ∧ Hid (wr.ownsRow w1.heap.size 73 2 y (pieceTo k d).length (ivC (pieceTo k d)))) (fun _ i _ => N - (intOf i).toNat)
 case atStart => exact ⟨0, by omega, rfl, Below.refl _ _, World.ownsRow_nil _ _ _ _⟩
 case round =>
  obtain ⟨d, hd, rfl, hb, ho⟩ := hrel
  have Hb := Lib.hid hb; clear hb
  have Hbw := Lib.hid (Hb1.out.trans (Hb.out.mono Hb1.out.size))
  by_cases hdN : d < N
  · have HUr := Lib.hid (HU.out.below Hb.out)
    have hcl := HUr.out.room
    have hP := Lib.hid (fun w' (h : Below wr.heap.size wr w') => refPiece_any aU N cU d (startsK k) w' (HUr.out.below h) hdN (by omega) (fun h2 => by
     have := asc_get Hsa.out (i := d) (j := d + 1) (by omega) (by rw [← HN.out]; exact h2)
     omega))
    obtain ⟨bS, oS, rfl, hcS⟩ := HUr.out.cells (by omega)
    have q1 := hcS d hdN
    have Hst := Lib.hid (pieceTo_succ (k := k) (d := d) (by rw [← HN.out]; exact hdN))
    have Hpl := Lib.hid (pieceTo_len k d)
    rw [← HN.out] at Hpl
    have hD := Lib.hid (refMembers11_any a n cap (nth (startsK k) d) k wr (HE.out.below Hbw.out) hn)
    have Hin := Lib.hid (show inK k (nth (startsK k) d) = decide (membersK k (nth (startsK k) d) ≠ []) from rfl)
    clear hcS
    generalize pieceTo k d = P0 at *
    generalize pieceOf (startsK k) d = p at *
    generalize nth (startsK k) d = x at *
    generalize membersK k x = M at *
    have h0 : (0 : Int) ≤ d := by omega
    have h04 : (d : Int) < (N : Int) := by omega
    obtain ⟨px, py⟩ := p
    go_wp2_with fail
    refine hD.out.mono ?_
    rintro e w2 ⟨⟨y, rfl, ho2⟩, hb2⟩
    have Hb2 := Lib.hid hb2
    have Hb2w := Lib.hid (Hb.out.trans (hb2.mono Hb.out.size))
    have Ho2 := Lib.hid (own_below ho.out hb2)
    obtain ⟨am, cm, rfl, -⟩ := i64s_own ho2
    clear ho2 hb2
    by_cases hM : M = []
    · have hd0 : decide (0 < (M.length : Int)) = false := by rw [hM]; rfl
      have hd1 : decide (0 < M.length) = false := by rw [hM]; rfl
      rw [Hin.out, if_neg (by simpa using hM), List.append_nil] at Hst
      clear hM Hin
      go_wp2
      go_roundw
      case rel => exact ⟨d + 1, by omega, by go_num, Hb2w.out, by rw [Hst.out]; exact Ho2.out⟩
      case measure => simp [intOf]; omega
    · have hMl : 0 < M.length := List.length_pos_iff.2 hM
      have hd0 : decide (0 < (M.length : Int)) = true := by rw [decide_eq_true_iff]; omega
      have hd1 : decide (0 < M.length) = true := by rw [decide_eq_true_iff]; omega
      rw [Hin.out, if_pos (by simpa using hM)] at Hst
      clear hM Hin
      go_wp2_with fail
      refine (hP.out _ Hb2.out).mono ?_
      rintro e w3 ⟨rfl, hb3⟩
      have Hb3 := Lib.hid (Hb2w.out.trans (hb3.mono Hb2w.out.size))
      have Ho3 := Lib.hid (own_below Ho2.out hb3)
      clear hb3
      go_wp2_with (at_builtin; refine wpList_append_ivs rfl (.tmp 22) (.tmp 26) rfl rfl w1.heap.size _ _ P0 rfl (Ho3.out.alloc _) _ 1 _ [(px, py)] rfl (rd_block (heap_at_new _ _ _ (by simp)) rfl rfl) (by have := Hpl.out; omega) (by have := Hb3.out.size; simp; omega) ?_; intro v' w8 ho8 hg8)
      have Hb8 := Lib.hid (Below.grown (B := w1.heap.size) (Hb3.out.alloc Hb3.out.size _) hg8 (by have := Hb3.out.size; simp; omega) (fun k hk => (Ho3.out.lt k hk).1))
      go_roundw
      case rel => exact ⟨d + 1, by omega, by go_num, Hb8.out, by rw [Hst.out, List.length_append]; exact ho8⟩
      case measure => simp [intOf]; omega
  · obtain rfl : d = N := by omega
    have Ho := Lib.hid ho.out
    rw [Hall.out] at Ho
    go_wp2
    go_ret
    exact ⟨⟨_, rfl, own_mono Ho.out Hb1.out.size⟩, Hbw.out⟩
def refTo (k : Kno) (d : Nat) : Kno := ((piecesK k).take d).map fun s => ([s], atK k s.1)
theorem refTo_succ {k : Kno} {d : Nat} (h : d < (piecesK k).length) : refTo k (d + 1) = refTo k d ++ [([nthI (piecesK k) d], atK k (nthI (piecesK k) d).1)] := by
 unfold refTo
 rw [List.take_succ_eq_append_getElem h, List.map_append, nthI_get h]
 rfl
theorem refTo_all (k : Kno) : refTo k (piecesK k).length = refineK k := by unfold refTo refineK; rw [List.take_length]
theorem refTo_len (k : Kno) (d : Nat) : (refTo k d).length ≤ (piecesK k).length := by
 unfold refTo
 rw [List.length_map, List.length_take]
 omega
theorem ivSl_row {W : World} {g : Nat} {s : Iv} (h : W.heap[g]? = some (.cells #[.int .u64 ((s.1 : Nat) : Int), .int .u64 ((s.2 : Nat) : Int)] 73)) (hs : s.1 < 18446744073709551616 ∧ s.2 < 18446744073709551616) (b : Nat) : IvSl W b (.slice (some ⟨g, 0, none⟩) 1 1) [s] :=
 ⟨_, _, _, rfl, ivs_lit h hs, fun _ p hp => by cases hp; exact .inr ⟨_, _, h⟩⟩
theorem row2_new {X w' : World} {x y : Value} {T : TypeId} (h : Below (X.alloc (.cells #[x, y] T)).heap.size (X.alloc (.cells #[x, y] T)) w') : w'.heap[X.heap.size]? = some (.cells #[x, y] T) :=
 (h.block _ (by simp)).trans (row_new rfl)
theorem row2_newd {X w' : World} {x y : Value} {T : TypeId} (h : Below (X.alloc (.cells #[x, y] T)).drew.heap.size (X.alloc (.cells #[x, y] T)).drew w') : w'.heap[X.heap.size]? = some (.cells #[x, y] T) :=
 (h.block _ (by show X.heap.size < (X.alloc _).heap.size; simp)).trans (row_new rfl)
set_option maxRecDepth 20000 in
set_option maxHeartbeats 4000000 in
theorem refRefine12_any (a : Option Addr) (n cap : Nat) (k : Kno) (w : World) (hE : Frags w a n cap k) (hL : LtK k) (hF : KnoFits k) (hA : (allL (k.map (·.1))).length ≤ 2000) :
 Calls Tryz.prog 102 #[.slice a n cap] w fun x w' => (∃ y, x = .returned y ∧ OwnK w' w.heap.size 0 y (refineK k)) ∧ Below w.heap.size w w' := by
 have HE := Lib.hid hE; have HL := Lib.hid hL; have HF := Lib.hid hF
 have hn : n ≤ 500 := by rw [← hE.len]; exact hF.len
 have hC := Lib.hid (refPieces12_any a n cap k w hE hL hn hA)
 have Hall := Lib.hid (refTo_all k)
 have HLn := Lib.hid (Nat.le_trans (piecesK_len k) hA)
 have hPl : Lt64 (piecesK k) := fun s hs => by
  have := pieces_mem hL hs
  exact ⟨by omega, this.2.1⟩
 have HPl := Lib.hid hPl
 clear hE hL hF hA hPl
 go_enter Tryz.func102, Tryz.ntmps102
 go_wp2_with fail
 refine hC.out.mono ?_
 rintro e w1 ⟨⟨v, rfl, ho⟩, hb1⟩
 have Hb1 := Lib.hid hb1
 obtain ⟨aU, cU, rfl, hU⟩ := ivs_own ho HPl.out
 have HU := Lib.hid hU
 clear hb1 ho hU hC
 obtain ⟨N, hN⟩ : ∃ N, N = (piecesK k).length := ⟨_, rfl⟩
 have HN := Lib.hid hN
 rw [← hN] at HU HLn Hall ⊢
 clear hN
 have hN2 : N ≤ 2000 := HLn.out
 go_wp2
 go_loopw [4, 5] (fun y i wr => ∃ d : Nat, d ≤ N ∧ i = .int .i64 d ∧ Below w1.heap.size w1 wr ∧ Hid (OwnK wr w1.heap.size 0 y (refTo k d))) (fun _ i _ => N - (intOf i).toNat)
 case atStart => exact ⟨0, by omega, rfl, Below.refl _ _, ownK_nil _ _ _⟩
 case round =>
  obtain ⟨d, hd, rfl, hb, ho⟩ := hrel
  have Hb := Lib.hid hb; clear hb
  have Hbw := Lib.hid (Hb1.out.trans (Hb.out.mono Hb1.out.size))
  by_cases hdN : d < N
  · have hcl := HU.out.room
    obtain ⟨bS, oS, rfl, hcS⟩ := HU.out.cells (by omega)
    obtain ⟨q1, q2⟩ := hcS d hdN
    have Hst := Lib.hid (refTo_succ (k := k) (d := d) (by rw [← HN.out]; exact hdN))
    have Hpl := Lib.hid (refTo_len k d)
    rw [← HN.out] at Hpl
    have Hs := Lib.hid (HPl.out _ (nthI_mem (show d < (piecesK k).length by rw [← HN.out]; exact hdN)))
    generalize refTo k d = R0 at *
    generalize nthI (piecesK k) d = s at *
    obtain ⟨sx, sy⟩ := s
    simp only at q1 q2 Hst Hs
    have r1 : ∀ w', Below w1.heap.size wr w' → w'.cell? ⟨bS, oS + d * 2, none⟩ = some (.int .u64 sx) := fun w' h => ((Hb.out.trans h).cell (p := ⟨bS, oS + d * 2, none⟩) (cell_lt q1)).trans q1
    have r2 : ∀ w', Below w1.heap.size wr w' → w'.cell? ⟨bS, oS + d * 2 + 1, none⟩ = some (.int .u64 sy) := fun w' h => ((Hb.out.trans h).cell (p := ⟨bS, oS + d * 2 + 1, none⟩) (cell_lt q2)).trans q2
    have hz0 : w.heap.size ≤ w1.heap.size := Hb1.out.size
    have hz1 : w1.heap.size ≤ wr.heap.size := Hb.out.size
    have hAt := Lib.hid (fun w' (h : Below w1.heap.size wr w') => refAt11_any a n cap sx k w' (HE.out.below (Hbw.out.trans (h.mono hz0))) HL.out HF.out)
    have Hlv := Lib.hid (atK_can HL.out sx).2.1
    generalize atK k sx = V at *
    have h0 : (0 : Int) ≤ d := by omega
    have h04 : (d : Int) < (N : Int) := by omega
    clear hcS q1 q2
    go_wp2_with fail
    go_region_held3 (fun w' => Below w1.heap.size wr w') (first | assumption | exact (Below.refl _ _).drew | exact Below.alloc (by assumption) (Nat.le_trans hz1 (Below.size (by assumption))) _) (first
     | (go_at_call 145
        refine (hAt.out _ (by assumption)).mono ?_
        rintro e w4 ⟨⟨y4, rfl, ho4⟩, hb4⟩
        have hS4 : Below w1.heap.size wr w4 := Below.trans (by assumption) (hb4.mono (Nat.le_trans hz1 (Below.size (by assumption))))
        have hT4 : Below wr.heap.size wr w4 := Below.trans (by first | exact (Below.refl _ _).drew | exact ((Below.refl _ _).drew).alloc (by simp) _ | exact ((Below.refl _ _).alloc (Nat.le_refl _) _).drew) (hb4.mono (Below.size (by assumption)))
        have Ho4 := Lib.hid (ho.out.below hT4)
        obtain ⟨ya, yc, rfl, hV⟩ := ho4.entsT (base' := 0) Hlv.out
        have HV := Lib.hid hV
        first
         | (have zr := row2_new hb4)
         | (have zr := row2_newd hb4)
         | skip
        clear hb4 ho4 hV hT4)
     | (refine step_append_frg rfl (.tmp 14) (.tmp 28) rfl rfl w1.heap.size 0 _ R0 rfl (Ho4.out.below (by first | exact (Below.refl _ _).alloc (Nat.le_refl _) _ | exact ((Below.refl _ _).alloc (Nat.le_refl _) _).alloc (by simp) _)) _ 1 1 [([(sx, sy)], V)] rfl [(_, _)] (partsT_one (ivSl_row (s := (sx, sy)) (by first | exact heap_at_old _ _ _ _ (heap_at_new _ _ _ rfl) | exact heap_at_old _ _ _ _ zr) Hs.out 0) ⟨_, _, _, rfl, HV.out.steady (P := fun _ => True) (.of_below (by first | exact (Below.refl _ _).alloc (Nat.le_refl _) _ | exact ((Below.refl _ _).alloc (Nat.le_refl _) _).alloc (by simp) _)) trivial trivial⟩) rfl (rd_block (heap_at_new _ _ _ (by simp)) rfl rfl) (by have := Hpl.out; simp; omega) (by have := hS4.size; simp; omega) (Nat.zero_le _) ?_
        intro v8 w8 ho8 hg8 _
        have hS8 : Below w1.heap.size wr w8 := Below.grown (B := w1.heap.size) (by assumption) hg8 (by have := hS4.size; simp <;> omega) (fun j hj => (Ho4.out.lt j hj).1)))
    all_goals
     go_wp2
     go_roundw
     case rel => exact ⟨d + 1, by omega, by go_num, Hb.out.trans hS8, by rw [Hst.out]; exact ho8⟩
     case measure => simp [intOf]; omega
  · obtain rfl : d = N := by omega
    have Ho := Lib.hid ho.out
    rw [Hall.out] at Ho
    go_wp2
    go_ret
    exact ⟨⟨_, rfl, Ho.out.lower Hb1.out.size⟩, Hbw.out⟩
theorem own_drop_gen {w : World} {base g n c sz : Nat} {T : TypeId} {xs : List Value} (h : w.ownsRow base T sz (.slice (some ⟨g, 0, none⟩) n c) n xs) (k : Nat) (hk : k ≤ n) : Rd w sz (some ⟨g, k * sz, none⟩) (n - k) (xs.drop (k * sz)) := by
 have hlen := h.1
 refine ⟨by rw [List.length_drop, hlen, Nat.sub_mul], fun hn => ⟨g, k * sz, rfl, fun j u hu => ?_⟩⟩
 rw [List.getElem?_drop] at hu
 have hc := h.cells (g := g) rfl (k * sz + j) u hu
 rwa [add_at, Nat.zero_add] at hc
theorem frgC_take : ∀ (ss : List (Value × Value)) (k : Nat), (frgC ss).take (k * 2) = frgC (ss.take k)
 | [], k => by simp [frgC]
 | s :: ss, 0 => by simp [frgC]
 | s :: ss, k + 1 => by
   have e1 : frgC (s :: ss) = s.1 :: s.2 :: frgC ss := rfl
   rw [e1, show (k + 1) * 2 = k * 2 + 1 + 1 by omega, List.take_succ_cons, List.take_succ_cons, frgC_take ss k]
   rfl
theorem frgC_drop : ∀ (ss : List (Value × Value)) (k : Nat), (frgC ss).drop (k * 2) = frgC (ss.drop k)
 | [], k => by simp [frgC]
 | s :: ss, 0 => by simp
 | s :: ss, k + 1 => by
   have e1 : frgC (s :: ss) = s.1 :: s.2 :: frgC ss := rfl
   rw [e1, show (k + 1) * 2 = k * 2 + 1 + 1 by omega, List.drop_succ_cons, List.drop_succ_cons, frgC_drop ss k]
   rfl
theorem frgC_set : ∀ (ss : List (Value × Value)) (k : Nat) (x y : Value), ((frgC ss).set (k * 2) x).set (k * 2 + 1) y = frgC (ss.set k (x, y))
 | [], k, x, y => by simp [frgC]
 | s :: ss, 0, x, y => rfl
 | s :: ss, k + 1, x, y => by
   have e1 : frgC (s :: ss) = s.1 :: s.2 :: frgC ss := rfl
   rw [e1, show (k + 1) * 2 + 1 = (k * 2 + 1) + 1 + 1 by omega, show (k + 1) * 2 = k * 2 + 1 + 1 by omega, List.set_cons_succ, List.set_cons_succ, List.set_cons_succ, List.set_cons_succ, frgC_set ss k x y]
   rfl
theorem OwnK.form {w : World} {base inner : Nat} {x : Value} {k : Kno} (h : OwnK w base inner x k) :
 (x = .slice none 0 0 ∧ k = []) ∨ ∃ g c ss, x = .slice (some ⟨g, 0, none⟩) k.length c ∧ base ≤ g ∧ g < w.heap.size ∧ k.length ≤ c ∧ c ≤ maxLen ∧ w.ownsRow base 39 2 (.slice (some ⟨g, 0, none⟩) k.length c) k.length (frgC ss) ∧ PartsT w inner k ss := by
 obtain ⟨ss, ho, hh⟩ := h
 have ho2 := ho
 rcases ho.2 with ⟨rfl, h0⟩ | ⟨g, cap, cur, rfl, hg, hr, hnc, hcm, _⟩
 · exact .inl ⟨rfl, List.length_eq_zero_iff.1 h0⟩
 · exact .inr ⟨g, cap, ss, rfl, hg, (Array.getElem?_eq_some_iff.1 hr).1, hnc, hcm, ho2, hh⟩
theorem OwnK.form2 {w : World} {base inner n c : Nat} {a : Option Addr} {k : Kno} (h : OwnK w base inner (.slice a n c) k) :
 (a = none ∧ n = 0 ∧ c = 0 ∧ k = []) ∨ ∃ g ss, a = some ⟨g, 0, none⟩ ∧ k.length = n ∧ base ≤ g ∧ g < w.heap.size ∧ n ≤ c ∧ c ≤ maxLen ∧ w.ownsRow base 39 2 (.slice (some ⟨g, 0, none⟩) n c) n (frgC ss) ∧ PartsT w inner k ss := by
 rcases h.form with ⟨e, h0⟩ | ⟨g, c', ss, e, h1⟩
 · cases e; exact .inl ⟨rfl, rfl, rfl, h0⟩
 · cases e; exact .inr ⟨g, ss, rfl, rfl, h1⟩
theorem own_frozen {w : World} {base g n c sz : Nat} {T : TypeId} {xs : List Value} (h : w.ownsRow base T sz (.slice (some ⟨g, 0, none⟩) n c) n xs) (i : Nat) : w.frozen? ⟨g, i, none⟩ = false := by
 rcases h.2 with ⟨h', _⟩ | ⟨g', cap, cur, h', hg, hr, _⟩
 · cases h'
 · cases h'; simp [World.frozen?, hr]
theorem ownK_set {w : World} {base inner g n c p : Nat} {k : Kno} {ss : List (Value × Value)} (hn : k.length = n) (ho : w.ownsRow base 39 2 (.slice (some ⟨g, 0, none⟩) n c) n (frgC ss)) (hh : PartsT w inner k ss) (hb : inner ≤ base) (f : Frg) (x y : Value)
 (hx : IvSl w inner x f.1) (hy : EnSl w inner y f.2) : OwnK ((w.setCell ⟨g, p * 2, none⟩ x).setCell ⟨g, p * 2 + 1, none⟩ y) base inner (.slice (some ⟨g, 0, none⟩) n c) (k.set p f) := by
 have hrow : ∃ C fr, w.heap[g]? = some (.cells C 39 fr) ∧ base ≤ g := by
  rcases ho.2 with ⟨h, _⟩ | ⟨g', cap, cur, h, hg, hr, _⟩
  · cases h
  · cases h; exact ⟨_, _, hr, hg⟩
 obtain ⟨C, fr, hr, hg⟩ := hrow
 have h1 := (ho.stored (p * 2) x).1
 have h2 := (h1.stored (p * 2 + 1) y).1
 rw [frgC_set] at h2
 have hr2 : ∃ C' fr', (w.setCell ⟨g, p * 2, none⟩ x).heap[g]? = some (.cells C' 39 fr') := by
  rcases h1.2 with ⟨h, _⟩ | ⟨g', cap, cur, h, hg', hr', _⟩
  · cases h
  · cases h; exact ⟨_, _, hr'⟩
 obtain ⟨C', fr', hr2⟩ := hr2
 have s1 : Steady inner isEnT w (w.setCell ⟨g, p * 2, none⟩ x) := Steady.setCell (a := ⟨g, p * 2, none⟩) hr (Nat.le_trans hb hg) (by rintro (h | h) <;> cases h)
 have s2 : Steady inner isEnT (w.setCell ⟨g, p * 2, none⟩ x) ((w.setCell ⟨g, p * 2, none⟩ x).setCell ⟨g, p * 2 + 1, none⟩ y) := Steady.setCell (a := ⟨g, p * 2 + 1, none⟩) hr2 (Nat.le_trans hb hg) (by rintro (h | h) <;> cases h)
 have s := s1.trans s2
 refine ⟨ss.set p (x, y), by rw [List.length_set, hn]; exact h2, ?_⟩
 exact (hh.steady s (.inl rfl) (.inr rfl)).set (hx.steady s (.inl rfl)) (hy.steady s (.inl rfl) (.inr rfl))
def isum : Kno → Nat
 | [] => 0
 | f :: k => f.1.length + isum k
theorem isum_app : ∀ (k j : Kno), isum (k ++ j) = isum k + isum j
 | [], j => by simp [isum]
 | f :: k, j => by rw [List.cons_append, isum, isum, isum_app k j]; omega
theorem isum_mem : ∀ {k : Kno} {f : Frg}, f ∈ k → f.1.length ≤ isum k
 | g :: k, f, h => by
   rw [isum]
   rcases List.mem_cons.1 h with rfl | h
   · omega
   · have := isum_mem h; omega
theorem addG_sum : ∀ {k : Kno} {f : Frg}, (∀ g ∈ k, Lt64 g.1) → Lt64 f.1 → isum (addG k f) ≤ isum k + f.1.length ∧ (addG k f).length ≤ k.length + 1
 | [], f, _, _ => by simp [addG, isum]
 | g :: k, f, h, hf => by
   rw [addG]
   split
   · obtain ⟨h1, h2⟩ := addG_sum (k := k) (f := f) (fun g hg => h g (List.mem_cons_of_mem _ hg)) hf
     rw [isum, isum, List.length_cons, List.length_cons]
     omega
   · split
     · have := opL_len_or (h g List.mem_cons_self) hf
       rw [isum, isum, List.length_cons, List.length_cons]
       simp only
       omega
     · simp only [isum, List.length_cons]
       omega
def grpTo (k : Kno) (d : Nat) : Kno := (k.take d).foldl stepG []
theorem grpTo_succ {k : Kno} {d : Nat} (h : d < k.length) : grpTo k (d + 1) = stepG (grpTo k d) (nthF k d) := by
 unfold grpTo
 rw [List.take_succ_eq_append_getElem h, List.foldl_append, nthF_get h]
 rfl
theorem grpTo_all (k : Kno) : grpTo k k.length = groupK k := by unfold grpTo groupK; rw [List.take_length]
theorem grpTo_grp {k : Kno} (h : ∀ f ∈ k, RawF f) (d : Nat) : ∀ g ∈ grpTo k d, GrpF g :=
 (group_fold (k := k.take d) (out := []) (fun f hf => h f (List.mem_of_mem_take hf)) (fun g hg => by cases hg) List.Pairwise.nil).1
theorem fold_vec : ∀ {k out : Kno} {g : Frg}, g ∈ k.foldl stepG out → (∃ h ∈ out, h.2 = g.2) ∨ ∃ f ∈ k, canonV f.2 = g.2
 | [], out, g, h => .inl ⟨g, h, rfl⟩
 | f :: k, out, g, h => by
   rw [List.foldl_cons] at h
   rcases fold_vec h with ⟨e, he, e2⟩ | ⟨e, he, e2⟩
   · unfold stepG at he
     split at he
     · exact .inl ⟨e, he, e2⟩
     · rcases addG_vec he with h1 | ⟨g', hg', h1⟩
       · exact .inr ⟨f, List.mem_cons_self, h1.symm.trans e2⟩
       · exact .inl ⟨g', hg', h1.trans e2⟩
   · exact .inr ⟨e, List.mem_cons_of_mem _ he, e2⟩
theorem grpTo_fits {k : Kno} (h : ∀ f ∈ k, VecFits (canonV f.2)) (d : Nat) : ∀ g ∈ grpTo k d, VecFits g.2 := by
 intro g hg
 rcases fold_vec hg with ⟨e, he, _⟩ | ⟨f, hf, e⟩
 · cases he
 · rw [← e]; exact h f (List.mem_of_mem_take hf)
theorem isum_take : ∀ (k : Kno) (d : Nat), isum (k.take d) ≤ isum k
 | [], d => by simp [isum]
 | f :: k, 0 => by simp [isum]
 | f :: k, d + 1 => by rw [List.take_succ_cons, isum, isum]; have := isum_take k d; omega
theorem fold_sum : ∀ {k out : Kno}, (∀ f ∈ k, RawF f) → (∀ g ∈ out, GrpF g) → out.Pairwise VecLt → isum (k.foldl stepG out) ≤ isum out + isum k ∧ (k.foldl stepG out).length ≤ out.length + k.length
 | [], out, _, _, _ => by simp [isum]
 | f :: k, out, h1, h2, h3 => by
   rw [List.foldl_cons, isum, List.length_cons]
   have hk : ∀ f ∈ k, RawF f := fun g hg => h1 g (List.mem_cons_of_mem _ hg)
   by_cases hc : canonV f.2 = [] ∨ f.1 = []
   · have e : stepG out f = out := by unfold stepG; rw [if_pos hc]
     rw [e]
     have := fold_sum hk h2 h3
     omega
   · have e : stepG out f = addG out (f.1, canonV f.2) := by unfold stepG; rw [if_neg hc]
     rw [e]
     have hf := raw_grp (h1 f List.mem_cons_self) hc
     obtain ⟨a1, a2, -⟩ := addG_ok h2 h3 hf
     have h4 := fold_sum hk a1 a2
     have h5 := addG_sum (k := out) (f := (f.1, canonV f.2)) (fun g hg => (h2 g hg).items) hf.items
     simp only at h5
     omega
theorem grpTo_sum {k : Kno} (h : ∀ f ∈ k, RawF f) (d : Nat) : isum (grpTo k d) ≤ isum k ∧ (grpTo k d).length ≤ k.length := by
 have h1 := fold_sum (k := k.take d) (out := []) (fun f hf => h f (List.mem_of_mem_take hf)) (fun g hg => by cases hg) List.Pairwise.nil
 have h2 := isum_take k d
 rw [List.length_take] at h1
 simp only [isum, List.length_nil] at h1
 unfold grpTo
 omega
end
end Go.Proofs.YtkkdlgcfcbaibaaGreatDoor
