/- Walks and laws, joined: La14. -/
import Derived.Test.YtkkdlgcfcbaibaaGreatDoorLa13
import Derived.Test.YtkkdlgcfcbaibaaGreatDoorLa04
import Derived.Test.YtkkdlgcfcbaibaaGreatDoorLa10
set_option linter.unusedVariables false
namespace Go.Proofs.YtkkdlgcfcbaibaaGreatDoor
section
open Go.RowKit
theorem wpList_append_ent {w : World} {ops : Array Oper} {rest : List Oper} {o : Oper} {a : Act} {Q : Exit → Act → World → Prop} (hgd : o.guard = none) (s x : Operand)
 (ho : o.op = .call { callee := .builtin .append, args := #[s, x], argTypes := #[37, 37] }) (hty : o.type = 37)
 (base : Nat) (v : Value) (vs : Vec) (hs : a.eval s = v) (hown : OwnV w base v vs) (A : Option Addr) (c : Nat) (e : Ent) (ea : Option Addr) (en ec : Nat) (hI : IvsT w 0 ea en ec e.2.2) (hx : a.eval x = .slice A 1 c)
 (hr : Rd w 3 A 1 [.int .u64 ((e.1 : Nat) : Int), .int .u64 ((e.2.1 : Nat) : Int), .slice ea en ec]) (hb : vs.length + 1 ≤ 1000000) (hbase : base ≤ w.heap.size)
 (h : ∀ v' w', OwnV w' base v' (vs ++ [e]) → w.grownBy w' v.ownBlock → Steady base isIvT w w' → wpList Tryz.prog ops Q rest (a.put o.dst v') w') : wpList Tryz.prog ops Q (o :: rest) a w := by
 obtain ⟨v', w', hrun, h1, h2, h3⟩ := run_append_ent base v vs e hown ea en ec hI A c hr hb hbase
 exact wpList_append_hr _ _ _ ho (by simp [Region.wanted, hgd]) _ _ hs hx v' w' (by rw [hty]; exact hrun) (h v' w' h1 h2 h3)
theorem wpList_append_u64 {w : World} {ops : Array Oper} {rest : List Oper} {o : Oper} {a : Act} {Q : Exit → Act → World → Prop} (hgd : o.guard = none) (s x : Operand)
 (ho : o.op = .call { callee := .builtin .append, args := #[s, x], argTypes := #[151, 151] }) (hty : o.type = 151)
 (base : Nat) (v : Value) (n : Nat) (xs : List Nat) (hs : a.eval s = v) (hown : w.ownsRow base 24 1 v n (u64C xs)) (A : Option Addr) (m c : Nat) (l : List Nat) (hx : a.eval x = .slice A m c) (hr : Rd w 1 A m (u64C l)) (hb : n + m ≤ 1000000) (hbase : base ≤ w.heap.size)
 (h : ∀ v' w', w'.ownsRow base 24 1 v' (n + m) (u64C (xs ++ l)) → w.grownBy w' v.ownBlock → wpList Tryz.prog ops Q rest (a.put o.dst v') w') : wpList Tryz.prog ops Q (o :: rest) a w := by
 obtain ⟨v', w', hrun, h1, h2⟩ := run_append_u64 base v n xs hown A m c l hr hb hbase
 exact wpList_append_hr _ _ _ ho (by simp [Region.wanted, hgd]) _ _ hs hx v' w' (by rw [hty]; exact hrun) (h v' w' h1 h2)
theorem step_append_frg {w : World} {ops : Array Oper} {o : Oper} {a : Act} {K : Act → World → Prop} {Q : Exit → Act → World → Prop} {E : Prop} (hgd : o.guard = none) (s x : Operand)
 (ho : o.op = .call { callee := .builtin .append, args := #[s, x], argTypes := #[23, 23] }) (hty : o.type = 23)
 (base inner : Nat) (v : Value) (k : Kno) (hs : a.eval s = v) (hown : OwnK w base inner v k) (A : Option Addr) (c n : Nat) (j : Kno) (hn : n = j.length) (ts : List (Value × Value)) (hp : PartsT w inner j ts) (hx : a.eval x = .slice A n c)
 (hr : Rd w 2 A n (frgC ts)) (hb : k.length + j.length ≤ 1000000) (hbase : base ≤ w.heap.size) (hin : inner ≤ base)
 (h : ∀ v' w', OwnK w' base inner v' (k ++ j) → w.grownBy w' v.ownBlock → Steady base isEnT w w' → K (a.put o.dst v') w') :
 if Region.wanted o (yielded ops a.tmps) = true then Oper.wp Tryz.prog o a w K Q else E := by
 subst hn
 obtain ⟨v', w', hrun, h1, h2, h3⟩ := run_append_frg base inner v k j hown ts hp A c hr hb hbase hin
 exact step_append_hr hgd s x _ ho _ _ hs hx v' w' (by rw [hty]; exact hrun) (h v' w' h1 h2 h3)
theorem OwnV.lt {w : World} {base : Nat} {v : Value} {vs : Vec} (h : OwnV w base v vs) : ∀ k, v.ownBlock = some k → base ≤ k ∧ k < w.heap.size := by
 obtain ⟨ss, ho, -⟩ := h
 exact fun k hk => ho.lt k hk
theorem OwnK.lt {w : World} {base inner : Nat} {v : Value} {k : Kno} (h : OwnK w base inner v k) : ∀ j, v.ownBlock = some j → base ≤ j ∧ j < w.heap.size := by
 obtain ⟨ss, ho, -⟩ := h
 exact fun j hj => ho.lt j hj
structure VecFits (v : Vec) : Prop where
 len : v.length ≤ 300
 holes : ∀ e ∈ v, e.2.2.length ≤ 500
theorem canonV_take {v : Vec} {k : Nat} (h : k < v.length) : canonV (v.take (k + 1)) = canonV (v.take k) ++ (canonE (nthE v k)).toList := by
 unfold canonV
 rw [List.take_succ_eq_append_getElem h, List.filterMap_append, nthE_get h]
 simp only [List.filterMap_cons, List.filterMap_nil]
 cases canonE v[k] <;> rfl
theorem canonV_len (v : Vec) : (canonV v).length ≤ v.length := List.length_filterMap_le _ _
theorem ofRes_own {base : Nat} {f : Ent} {x : Ending} {w' : World} (h : OfRes base (some f) x w') (hl : Lt64 f.2.2) : ∃ a c, x = .returned (.tuple #[entV f (.slice a f.2.2.length c), .bool true]) ∧ ∀ b, IvsT w' b a f.2.2.length c f.2.2 := by
 obtain ⟨s, rfl, ho⟩ := h
 obtain ⟨a, c, rfl, h0⟩ := ivsT_own (base' := 0) ho hl
 exact ⟨a, c, rfl, fun b => h0.raise (Nat.zero_le _)⟩
set_option maxRecDepth 20000 in
set_option maxHeartbeats 2000000 in
theorem refCanon9_any (a : Option Addr) (n cap : Nat) (v : Vec) (w : World) (hE : Ents w a n cap v) (hF : VecFits v) :
 Calls Tryz.prog 142 #[.slice a n cap] w fun x w' => (∃ y, x = .returned y ∧ OwnV w' w.heap.size y (canonV v)) ∧ Below w.heap.size w w' := by
 have HE := Lib.hid hE; have HF := Lib.hid hF
 have Hl := Lib.hid hE.len
 have hm : n ≤ 9223372036854775807 := Nat.le_trans hE.room hE.most
 have hn3 : n ≤ 300 := by rw [← hE.len]; exact hF.len
 clear hE hF
 go_enter Tryz.func142, Tryz.ntmps142
 go_wp2
 go_loopw [3, 4, 5, 6] (fun y i _ _ wr => ∃ k : Nat, k ≤ n ∧ i = .int .i64 k ∧ Below w.heap.size w wr ∧ Hid (OwnV wr w.heap.size y (canonV (v.take k)))) (fun _ i _ _ _ => n - (intOf i).toNat)
 case atStart => exact ⟨0, by omega, rfl, Below.refl _ _, by rw [List.take_zero]; exact ownV_nil _ _⟩
 case round =>
  obtain ⟨k, hk, rfl, hb, ho⟩ := hrel
  have Hb := Lib.hid hb; clear hb
  by_cases hkn : k < n
  · have hkv : k < v.length := by rw [Hl.out]; exact hkn
    have HEr := Lib.hid (HE.out.below Hb.out)
    obtain ⟨bb, oo, rfl⟩ := HEr.out.some (by omega)
    have Hlt := Lib.hid (HE.out.lt (nthE v k) (nthE_mem hkv))
    have Hho := Lib.hid (HF.out.holes (nthE v k) (nthE_mem hkv))
    have Hst := Lib.hid (canonV_take hkv)
    have HoL := Lib.hid (show (canonV (v.take k)).length ≤ 300 from by
     have := canonV_len (v.take k)
     rw [List.length_take] at this
     omega)
    obtain ⟨x, m, c, hq⟩ := HEr.out.fix hkn
    obtain ⟨q1, q2, q3, q4⟩ := hq _ (Below.refl _ _)
    have hC := Lib.hid (refCanon7_any (nthE v k) x m c wr q4 Hlt.out.max (by have := Hho.out; omega))
    have Hfl := Lib.hid (fun f (hf : canonE (nthE v k) = some f) => (canonE_some Hlt.out hf).2.2.1)
    generalize nthE v k = e at *
    have h0 : (0 : Int) ≤ k := by omega
    have h04 : (k : Int) < (n : Int) := by omega
    obtain ⟨er, em, eh⟩ := e
    simp only at q1 q2 q3
    clear q4 hq
    generalize canonV (v.take k) = T at *
    cases h : canonE (er, em, eh) with
    | none =>
     rw [h] at hC Hst
     simp only [OfRes, Option.toList, List.append_nil] at hC Hst
     clear h Hfl
     go_wp2_with fail
     refine hC.out.mono ?_
     rintro z w1 ⟨rfl, hb1⟩
     have Hb1 := Lib.hid (Hb.out.trans (hb1.mono Hb.out.size))
     have Ho1 := Lib.hid (ho.out.below hb1)
     clear hb1
     go_wp2
     go_roundw
     case rel =>
      have hal : Below w1.heap.size w1 (w1.alloc (.cells #[.int .u64 0, .int .u64 0, .slice none 0 0] 71)) := (Below.refl _ _).alloc (Nat.le_refl _) _
      exact ⟨k + 1, by omega, by go_num, Hb1.out.trans (hal.mono Hb1.out.size), by rw [Hst.out]; exact Ho1.out.below hal⟩
     case measure => simp [intOf]; omega
    | some f =>
     have Hfl := Lib.hid (Hfl.out f h)
     rw [h] at hC Hst
     simp only [Option.toList] at Hst
     clear h
     obtain ⟨fr, fm, fh⟩ := f
     go_wp2_with fail
     refine hC.out.mono ?_
     rintro z w1 ⟨hz, hb1⟩
     obtain ⟨sa, sc, rfl, hs⟩ := ofRes_own hz Hfl.out.holes
     simp only at hs
     have Hs := Lib.hid (hs 0)
     have Hb1 := Lib.hid (Hb.out.trans (hb1.mono Hb.out.size))
     have Ho1 := Lib.hid (ho.out.below hb1)
     clear hb1 hs hz
     have hal : Below w1.heap.size w1 ((w1.alloc (.cells #[.int .u64 fr, .int .u64 fm, .slice sa fh.length sc] 71)).alloc (.cells #[.int .u64 fr, .int .u64 fm, .slice sa fh.length sc] 71)) :=
      ((Below.refl w1.heap.size w1).alloc (Nat.le_refl _) _).alloc (by simp) _
     have Hal := Lib.hid hal
     clear hal
     go_wp2_with (at_builtin; refine wpList_append_ent rfl (.tmp 22) (.tmp 24) rfl rfl w.heap.size _ T rfl (Ho1.out.below Hal.out) _ 1 (fr, fm, fh) sa fh.length sc (Hs.out.steady (P := fun _ => True) (.of_below Hal.out) trivial) rfl (rd_block (heap_at_new _ _ _ (by simp)) rfl rfl) (by have := HoL.out; omega) (by have := Hb1.out.size; simp; omega) ?_; intro v' w7 ho7 hg7 _)
     have Hb7 := Lib.hid (Below.grown (Hb1.out.trans (Hal.out.mono Hb1.out.size)) hg7 (by have := Hb1.out.size; have := Hal.out.size; omega) (fun k hk => (Ho1.out.lt k hk).1))
     go_roundw
     case rel => exact ⟨k + 1, by omega, by go_num, Hb7.out, by rw [Hst.out]; exact ho7⟩
     case measure => simp [intOf]; omega
  · obtain rfl : k = n := by omega
    have Ho := Lib.hid ho.out
    rw [show canonV (v.take k) = canonV v from by rw [List.take_of_length_le (by rw [Hl.out]; exact Nat.le_refl _)]] at Ho
    go_wp2
    go_ret
    exact ⟨⟨_, rfl, Ho.out⟩, Hb.out⟩
def preNum (v : Vec) (k : Nat) : List Nat := v.length :: (v.take k).flatMap numE
theorem preNum_succ {v : Vec} {k : Nat} (h : k < v.length) : preNum v (k + 1) = preNum v k ++ numE (nthE v k) := by
 unfold preNum
 rw [List.take_succ_eq_append_getElem h, List.flatMap_append, nthE_get h]
 simp
theorem preNum_all (v : Vec) : preNum v v.length = numV v := by unfold preNum numV; rw [List.take_length]
theorem preNum_le {v : Vec} {k : Nat} : (preNum v k).length ≤ (numV v).length := by
 unfold preNum numV
 rw [List.length_cons, List.length_cons]
 have h : v.flatMap numE = (v.take k).flatMap numE ++ (v.drop k).flatMap numE := by rw [← List.flatMap_append, List.take_append_drop]
 rw [h, List.length_append]
 omega
theorem numH_snoc (l : List Iv) (k : Nat) (h : k < l.length) : numH (l.take (k + 1)) = numH (l.take k) ++ [(nthI l k).1, (nthI l k).2] := by
 unfold numH
 rw [List.take_succ_eq_append_getElem h, List.flatMap_append, nthI_get h]
 simp
theorem numH_len (l : List Iv) : (numH l).length = 2 * l.length := by
 unfold numH
 induction l with
 | nil => rfl
 | cons s l ih => simp only [List.flatMap_cons, List.length_append, ih, List.length_cons, List.length_nil]; omega
set_option maxRecDepth 20000 in
set_option maxHeartbeats 4000000 in
theorem refNumbers9_any (a : Option Addr) (n cap : Nat) (v : Vec) (w : World) (hE : Ents w a n cap v) (hN : (numV v).length ≤ 900000) :
 Calls Tryz.prog 151 #[.slice a n cap] w fun x w' => (∃ y, x = .returned y ∧ w'.ownsRow w.heap.size 24 1 y (numV v).length (u64C (numV v))) ∧ Below w.heap.size w w' := by
 have HE := Lib.hid hE; have HN := Lib.hid hN
 have Hl := Lib.hid hE.len
 have hm : n ≤ 9223372036854775807 := Nat.le_trans hE.room hE.most
 have hw : IntKind.u64.wrap (n : Int) = (n : Int) := by rw [IntKind.wrap_u64]; omega
 have ho0 := World.ownsRow_lit (e := 24) (size := 1) (base := w.heap.size) w (u64C [n]).toArray 1 (Nat.le_refl _) (by unfold maxLen; omega) rfl
 have Ho0 := Lib.hid ho0
 have hb0 : Below w.heap.size w (w.alloc (.cells (u64C [n]).toArray 24)) := (Below.refl _ _).alloc (Nat.le_refl _) _
 clear hE hN ho0
 go_enter Tryz.func151, Tryz.ntmps151
 go_wp2
 go_loopw [3, 4, 5] (fun y i _ wr => ∃ k : Nat, k ≤ n ∧ i = .int .i64 k ∧ Below w.heap.size w wr ∧ Hid (wr.ownsRow w.heap.size 24 1 y (preNum v k).length (u64C (preNum v k)))) (fun _ i _ _ => n - (intOf i).toNat)
 case atStart => exact ⟨0, by omega, rfl, hb0, by
  have := Ho0.out
  rw [show preNum v 0 = [n] from by unfold preNum; rw [Hl.out]; rfl]
  exact this⟩
 case round =>
  obtain ⟨k, hk, rfl, hb, ho⟩ := hrel
  have Hb := Lib.hid hb; clear hb
  by_cases hkn : k < n
  · have hkv : k < v.length := by rw [Hl.out]; exact hkn
    obtain ⟨bb, oo, rfl⟩ := HE.out.some (by omega)
    obtain ⟨x, m, c, hq⟩ := HE.out.fix hkn
    have Hst := Lib.hid (preNum_succ hkv)
    have Hpl := Lib.hid (preNum_le (v := v) (k := k + 1))
    obtain ⟨-, -, -, hIv⟩ := hq _ (Below.refl _ _)
    have HIv := Lib.hid hIv
    obtain ⟨P1, hP1⟩ : ∃ P1, preNum v (k + 1) = P1 := ⟨_, rfl⟩
    rw [hP1] at Hst Hpl
    have HP1 := Lib.hid hP1
    clear hP1
    generalize preNum v k = P at *
    generalize nthE v k = e at *
    obtain ⟨er, em, eh⟩ := e
    simp only at hq HIv hIv
    have Hel := Lib.hid hIv.len
    have hcm : m ≤ 9223372036854775807 := Nat.le_trans hIv.room hIv.most
    have hwm : IntKind.u64.wrap (m : Int) = (m : Int) := by rw [IntKind.wrap_u64]; omega
    have Hlen := Lib.hid (show P.length + 3 + 2 * m ≤ 900000 from by
     have h1 := Hpl.out
     have h2 := HN.out
     rw [Hst.out, List.length_append] at h1
     simp only [numE, List.length_cons, numH_len, Hel.out] at h1
     omega)
    have hbr : Below w.heap.size w wr := Hb.out
    have r1 : ∀ w', Below w.heap.size wr w' → w'.cell? ⟨bb, oo + k * 3, none⟩ = some (.int .u64 er) := fun w' h => (hq w' (hbr.trans h)).1
    have r2 : ∀ w', Below w.heap.size wr w' → w'.cell? ⟨bb, oo + k * 3 + 1, none⟩ = some (.int .u64 em) := fun w' h => (hq w' (hbr.trans h)).2.1
    have r3 : ∀ w', Below w.heap.size wr w' → w'.cell? ⟨bb, oo + k * 3 + 2, none⟩ = some (.slice x m c) := fun w' h => (hq w' (hbr.trans h)).2.2.1
    have h0 : (0 : Int) ≤ k := by omega
    have h04 : (k : Int) < (n : Int) := by omega
    have HoW := Lib.hid (fun W (h : Below wr.heap.size wr W) => own_below ho.out h)
    clear hIv
    go_wp2_with fail
    have hz : w.heap.size ≤ wr.heap.size := Hb.out.size
    have R3 := Lib.hid (fun w' (h : Below w.heap.size w w') => (hq w' h).2.2.1)
    clear hq
    go_region_held3 (fun w' => Below w.heap.size wr w') (first | assumption | exact (Below.refl _ _).drew | exact Below.alloc (by assumption) (Nat.le_trans hz (Below.size (by assumption))) _) (first
     | (refine step_append_u64 rfl (.tmp 16) (.tmp 34) rfl rfl w.heap.size _ P.length P rfl (HoW.out _ (by first | exact ((Below.refl _ _).alloc (Nat.le_refl _) _).drew | exact ((Below.refl _ _).drew).alloc (by simp) _)) _ 3 _ [er, em, m] rfl (rd_block (by first | exact heap_at_new _ _ _ (by simp) | exact heap_at_old _ _ _ _ (heap_at_new _ _ _ (by simp))) rfl rfl) (by have := Hlen.out; omega) (by simp <;> omega) ?_
        intro v1 w1 ho1 hg1
        have hS1 : Below w.heap.size wr w1 := by
         refine Below.grown (B := w.heap.size) (by assumption) hg1 (by simp <;> omega) ?_
         intro j hj
         exact ((HoW.out wr (Below.refl _ _)).lt j hj).1))
    all_goals
     have Hb1 := Lib.hid (hbr.trans hS1)
     have Ho1 := Lib.hid ho1
     clear hS1 hg1 ho1
     go_wp2
     go_loopw [3, 5] (fun y j wi => ∃ d : Nat, d ≤ m ∧ j = .int .i64 d ∧ Below w.heap.size w wi ∧ Hid (wi.ownsRow w.heap.size 24 1 y (P ++ [er, em, m] ++ numH (eh.take d)).length (u64C (P ++ [er, em, m] ++ numH (eh.take d))))) (fun _ j _ => m - (intOf j).toNat)
     case atStart => exact ⟨0, by omega, rfl, Hb1.out, by
      have := Ho1.out
      rw [show (P ++ [er, em, m] ++ numH (eh.take 0)) = P ++ [er, em, m] from by simp [numH]]
      rw [List.length_append]
      exact this⟩
     case round =>
      obtain ⟨d, hd, rfl, hbi, hoi⟩ := hrel
      have Hbi := Lib.hid hbi; clear hbi
      have s3 := R3.out wr Hbi.out
      have Hel2 := Lib.hid (show d < m → numH (eh.take (d + 1)) = numH (eh.take d) ++ [(nthI eh d).1, (nthI eh d).2] from fun h => numH_snoc eh d (by rw [Hel.out]; exact h))
      have Hnl := Lib.hid (show (P ++ [er, em, m] ++ numH (eh.take d)).length ≤ P.length + 3 + 2 * d from by
       rw [List.length_append, List.length_append, numH_len, List.length_take]
       simp only [List.length_cons, List.length_nil]
       omega)
      by_cases hdm : d < m
      · obtain ⟨hb, ho, rfl, hc⟩ := HIv.out.cells (by omega)
        obtain ⟨c1, c2⟩ := hc d hdm
        clear hc
        have Hel2 := Lib.hid (Hel2.out hdm)
        generalize numH (eh.take d) = N at *
        generalize nthI eh d = p at *
        obtain ⟨px, py⟩ := p
        simp only at c1 c2 Hel2
        have h0d : (0 : Int) ≤ d := by omega
        have h04d : (d : Int) < (m : Int) := by omega
        obtain ⟨wz, hwz⟩ : ∃ wz : World, wz = wr := ⟨_, rfl⟩
        have hz2 : w.heap.size ≤ wr.heap.size := Hbi.out.size
        have s1 : ∀ w', Below w.heap.size wr w' → w'.cell? ⟨bb, oo + k * 3 + 2, none⟩ = some (.slice (some ⟨hb, ho, none⟩) m c) := fun w' h => R3.out w' (Hbi.out.trans h)
        have s4 : ∀ w', Below w.heap.size wr w' → w'.cell? ⟨hb, ho + d * 2, none⟩ = some (.int .u64 px) := fun w' h => ((Hbi.out.trans h).cell (p := ⟨hb, ho + d * 2, none⟩) (cell_lt c1)).trans c1
        have s5 : ∀ w', Below w.heap.size wr w' → w'.cell? ⟨hb, ho + d * 2 + 1, none⟩ = some (.int .u64 py) := fun w' h => ((Hbi.out.trans h).cell (p := ⟨hb, ho + d * 2 + 1, none⟩) (cell_lt c2)).trans c2
        have HoI := Lib.hid (fun W (h : Below wr.heap.size wr W) => own_below hoi.out h)
        clear c1 c2 hwz
        go_wp2_with fail
        clear s3
        go_region_held3 (fun w' => Below w.heap.size wr w') (first | assumption | exact (Below.refl _ _).drew | exact Below.alloc (by assumption) (Nat.le_trans hz2 (Below.size (by assumption))) _) (first
         | (refine step_append_u64 rfl (.tmp 46) (.tmp 65) rfl rfl w.heap.size _ _ (P ++ [er, em, m] ++ N) rfl (HoI.out _ (by first | exact ((Below.refl _ _).alloc (Nat.le_refl _) _).drew | exact ((Below.refl _ _).drew).alloc (by simp) _)) _ 2 _ [px, py] rfl (rd_block (by first | exact heap_at_new _ _ _ (by simp) | exact heap_at_old _ _ _ _ (heap_at_new _ _ _ (by simp))) rfl rfl) (by have := Hlen.out; have := Hnl.out; omega) (by simp <;> omega) ?_
            intro v2 w2 ho2 hg2
            have hS2 : Below w.heap.size wr w2 := by
             refine Below.grown (B := w.heap.size) (by assumption) hg2 (by simp <;> omega) ?_
             intro j hj
             exact ((HoI.out wr (Below.refl _ _)).lt j hj).1))
        all_goals
         go_wp2
         go_roundw
         case rel => exact ⟨d + 1, by omega, by go_num, Hbi.out.trans hS2, by
          rw [Hel2.out, ← List.append_assoc]
          rw [List.length_append (bs := [px, py])]
          exact ho2⟩
         case measure => simp [intOf]; omega
      · obtain rfl : d = m := by omega
        have Hoi := Lib.hid hoi.out
        have hall : P ++ [er, em, d] ++ numH (eh.take d) = P1 := by
         rw [Hst.out, List.take_of_length_le (by rw [Hel.out]; exact Nat.le_refl _), List.append_assoc]
         simp only [numE, Hel.out]
         rfl
        rw [hall] at Hoi
        clear hall
        go_wp2
        go_roundw
        case rel => exact ⟨k + 1, by omega, by go_num, Hbi.out, by rw [HP1.out]; exact Hoi.out⟩
        case measure => simp [intOf]; omega
  · obtain rfl : k = n := by omega
    have Ho := Lib.hid ho.out
    rw [← Hl.out, preNum_all] at Ho
    go_wp2
    go_ret
    exact ⟨⟨_, rfl, Ho.out⟩, Hb.out⟩
theorem drop_nth {l : List Nat} {k : Nat} (h : k < l.length) : l.drop k = nth l k :: l.drop (k + 1) := by
 rw [List.drop_eq_getElem_cons h]
 congr 1
 simp [nth, h]
theorem cmpN_step {p q : List Nat} {k : Nat} (hp : k < p.length) (hq : k < q.length) : cmpN (p.drop k) (q.drop k) = if nth p k < nth q k then -1 else if nth q k < nth p k then 1 else cmpN (p.drop (k + 1)) (q.drop (k + 1)) := by
 rw [drop_nth hp, drop_nth hq]
 rfl
theorem cmpN_end {p q : List Nat} {k : Nat} (hp : k ≤ p.length) (hq : k ≤ q.length) (h : k = p.length ∨ k = q.length) : cmpN (p.drop k) (q.drop k) = if p.length < q.length then -1 else if q.length < p.length then 1 else 0 := by
 rcases h with rfl | rfl
 · rw [List.drop_length]
   by_cases hl : p.length < q.length
   · rw [if_pos hl, drop_nth hl]; rfl
   · have : q.drop p.length = [] := List.drop_eq_nil_of_le (by omega)
     rw [if_neg hl, if_neg (by omega), this]; rfl
 · rw [List.drop_length]
   by_cases hl : q.length < p.length
   · rw [if_neg (by omega), if_pos hl, drop_nth hl]; rfl
   · have : p.drop q.length = [] := List.drop_eq_nil_of_le (by omega)
     rw [if_neg (by omega), if_neg hl, this]; rfl
set_option maxRecDepth 20000 in
set_option maxHeartbeats 4000000 in
theorem refCompare9_any (a d : Option Addr) (n c n' c' : Nat) (v u : Vec) (w : World) (hE : Ents w a n c v) (hF : Ents w d n' c' u) (hN : (numV v).length ≤ 900000) (hM : (numV u).length ≤ 900000)
 (hpl : ∀ x ∈ numV v, x < 18446744073709551616) (hql : ∀ x ∈ numV u, x < 18446744073709551616) :
 Calls Tryz.prog 107 #[.slice a n c, .slice d n' c'] w fun x w' => x = .returned (.int .i64 (cmpV v u)) ∧ Below w.heap.size w w' := by
 have HF := Lib.hid hF; have HN := Lib.hid hN; have HM := Lib.hid hM
 have Hpl := Lib.hid hpl; have Hql := Lib.hid hql
 have hC := Lib.hid (refNumbers9_any a n c v w hE hN)
 have hD := Lib.hid (fun w' (h : Below w.heap.size w w') => refNumbers9_any d n' c' u w' (hF.below h) hM)
 have Hcv := Lib.hid (show cmpV v u = cmpN (numV v) (numV u) from rfl)
 clear hE hF hN hM hpl hql
 generalize numV v = P at *
 generalize numV u = R at *
 generalize cmpV v u = z at *
 go_enter Tryz.func107, Tryz.ntmps107
 go_wp2_with fail
 refine hC.out.mono ?_
 rintro e w1 ⟨⟨y, rfl, ho1⟩, hb1⟩
 have Hb1 := Lib.hid hb1
 obtain ⟨aP, cP, rfl, hU1⟩ := u64s_own ho1 Hpl.out
 clear hb1 ho1
 have HU1 := Lib.hid hU1; clear hU1
 go_wp2_with fail
 refine (hD.out _ Hb1.out).mono ?_
 rintro e w2 ⟨⟨y, rfl, ho2⟩, hb2⟩
 have Hb2 := Lib.hid (Hb1.out.trans (hb2.mono Hb1.out.size))
 obtain ⟨aR, cR, rfl, hU2⟩ := u64s_own ho2 Hql.out
 have HUp := Lib.hid (HU1.out.below hb2)
 clear hb2 ho2
 have HUr := Lib.hid hU2; clear hU2 HU1 hC hD
 obtain ⟨N, hN⟩ : ∃ N, N = P.length := ⟨_, rfl⟩
 obtain ⟨M, hM⟩ : ∃ M, M = R.length := ⟨_, rfl⟩
 rw [← hN] at HN HUp ⊢
 rw [← hM] at HM HUr ⊢
 have HNl := Lib.hid hN; have HMl := Lib.hid hM
 have hNm : N ≤ 9223372036854775807 := Nat.le_trans HUp.out.room HUp.out.most
 clear hN hM
 go_wp2
 go_loopw [7] (fun i wr => ∃ k : Nat, k ≤ N ∧ k ≤ M ∧ i = .int .i64 k ∧ Below w2.heap.size w2 wr ∧ Hid (z = cmpN (P.drop k) (R.drop k))) (fun i _ => N - (intOf i).toNat)
 case atStart => exact ⟨0, by omega, by omega, rfl, Below.refl _ _, (by simpa using Hcv.out : z = cmpN (P.drop 0) (R.drop 0))⟩
 case round =>
  obtain ⟨k, hkN, hkM, rfl, hb, ht⟩ := hrel
  have Hb := Lib.hid hb; clear hb
  have Hbw := Lib.hid (Hb2.out.trans (Hb.out.mono Hb2.out.size))
  have h0 : (0 : Int) ≤ k := by omega
  by_cases h1 : k < N
  · by_cases h2 : k < M
    · have hst := cmpN_step (p := P) (q := R) (k := k) (by rw [← HNl.out]; exact h1) (by rw [← HMl.out]; exact h2)
      have Hst := Lib.hid (ht.out.trans hst)
      obtain ⟨b1, o1, rfl, hc1⟩ := (HUp.out.below Hb.out).cells (by omega)
      obtain ⟨b2, o2, rfl, hc2⟩ := (HUr.out.below Hb.out).cells (by omega)
      have q1 := hc1 k h1
      have q2 := hc2 k h2
      clear hst hc1 hc2
      generalize nth P k = x at *
      generalize nth R k = y at *
      have h01 : (k : Int) < (N : Int) := by omega
      have h02 : (k : Int) < (M : Int) := by omega
      have hcP := HUp.out.room
      have hcR := HUr.out.room
      by_cases hxy : x < y
      · have hd1 : decide ((x : Int) < (y : Int)) = true := by rw [decide_eq_true_iff]; omega
        have hd2 : decide (x < y) = true := by rw [decide_eq_true_iff]; omega
        rw [if_pos hxy] at Hst
        clear hxy
        go_wp2
        go_quiet (fail)
        go_wp2
        go_ret
        exact ⟨by rw [Hst.out]; rfl, by first | exact Hbw.out | exact below_drewN' Hbw.out _⟩
      · have hd1 : decide ((x : Int) < (y : Int)) = false := by rw [decide_eq_false_iff_not]; omega
        have hd2 : decide (x < y) = false := by rw [decide_eq_false_iff_not]; omega
        rw [if_neg hxy] at Hst
        by_cases hyx : y < x
        · have hd3 : decide ((y : Int) < (x : Int)) = true := by rw [decide_eq_true_iff]; omega
          have hd4 : decide (y < x) = true := by rw [decide_eq_true_iff]; omega
          rw [if_pos hyx] at Hst
          clear hxy hyx
          go_wp2
          go_quiet (fail)
          go_wp2
          go_quiet (fail)
          go_wp2
          go_ret
          exact ⟨by rw [Hst.out]; rfl, by first | exact Hbw.out | exact below_drewN' Hbw.out _ | exact below_drewN' (below_drewN' Hbw.out _) _⟩
        · have hd3 : decide ((y : Int) < (x : Int)) = false := by rw [decide_eq_false_iff_not]; omega
          have hd4 : decide (y < x) = false := by rw [decide_eq_false_iff_not]; omega
          rw [if_neg hyx] at Hst
          clear hxy hyx
          go_wp2
          go_quiet (fail)
          go_wp2
          go_quiet (fail)
          go_wp2
          go_roundw
          case rel => exact ⟨k + 1, by omega, by omega, by go_num, by first | exact Hb.out | exact below_drewN' Hb.out _ | exact below_drewN' (below_drewN' Hb.out _) _, Hst.out⟩
          case measure => simp [intOf]; omega
    · obtain rfl : k = M := by omega
      have Hz := Lib.hid (ht.out.trans (cmpN_end (by rw [← HNl.out]; omega) (by rw [← HMl.out]; omega) (.inr HMl.out)))
      rw [← HNl.out, ← HMl.out, if_neg (by omega), if_pos h1] at Hz
      have hd1 : decide ((N : Int) < (k : Int)) = false := by rw [decide_eq_false_iff_not]; omega
      have hd2 : decide ((k : Int) < (N : Int)) = true := by rw [decide_eq_true_iff]; omega
      go_wp2
      go_ret
      exact ⟨by rw [Hz.out]; rfl, Hbw.out⟩
  · obtain rfl : k = N := by omega
    have Hz := Lib.hid (ht.out.trans (cmpN_end (by rw [← HNl.out]; omega) (by rw [← HMl.out]; omega) (.inl HNl.out)))
    rw [← HNl.out, ← HMl.out] at Hz
    by_cases h2 : k < M
    · rw [if_pos h2] at Hz
      have hd1 : decide ((k : Int) < (M : Int)) = true := by rw [decide_eq_true_iff]; omega
      go_wp2
      go_ret
      exact ⟨by rw [Hz.out]; rfl, Hbw.out⟩
    · rw [if_neg h2, if_neg (by omega)] at Hz
      have hd1 : decide ((k : Int) < (M : Int)) = false := by rw [decide_eq_false_iff_not]; omega
      have hd2 : decide ((M : Int) < (k : Int)) = false := by rw [decide_eq_false_iff_not]; omega
      go_wp2
      go_ret
      exact ⟨by rw [Hz.out]; rfl, Hbw.out⟩
theorem fits_num {v : Vec} (h : VecFits v) : (numV v).length ≤ 900000 := by
 have h1 := h.len
 have : ∀ u : Vec, (∀ e ∈ u, e.2.2.length ≤ 500) → (u.flatMap numE).length ≤ u.length * 1003 := by
  intro u
  induction u with
  | nil => intro _; simp
  | cons e u ih =>
   intro hu
   have h2 := ih fun f hf => hu f (List.mem_cons_of_mem _ hf)
   have h3 := hu e List.mem_cons_self
   rw [List.flatMap_cons, List.length_append, List.length_cons]
   simp only [numE, List.length_cons, numH_len]
   omega
 have h4 := this v h.holes
 unfold numV
 rw [List.length_cons]
 omega
theorem lt_num {v : Vec} (h : LtV v) (hf : VecFits v) : ∀ x ∈ numV v, x < 18446744073709551616 := by
 intro x hx
 simp only [numV, List.mem_cons, List.mem_flatMap, numE, numH, List.not_mem_nil, or_false] at hx
 rcases hx with rfl | ⟨e, he, rfl | rfl | rfl | ⟨s, hs, rfl | rfl⟩⟩
 · have := hf.len; omega
 · exact (h e he).rep
 · exact (h e he).max
 · have := hf.holes e he; omega
 · exact ((h e he).holes s hs).1
 · exact ((h e he).holes s hs).2
end
end Go.Proofs.YtkkdlgcfcbaibaaGreatDoor
