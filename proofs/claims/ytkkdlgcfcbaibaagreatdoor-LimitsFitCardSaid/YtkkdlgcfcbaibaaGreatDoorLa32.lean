/- Walks and laws, joined: La32. -/
import Derived.WalkMore
import Derived.Test.YtkkdlgcfcbaibaaGreatDoorLa18
import Derived.Test.YtkkdlgcfcbaibaaGreatDoorLa24
import Derived.Test.YtkkdlgcfcbaibaaGreatDoorLa11
import Derived.Test.YtkkdlgcfcbaibaaGreatDoorLa07
set_option linter.unusedVariables false
namespace Go.Proofs.YtkkdlgcfcbaibaaGreatDoor
section
open Go.RowKit
theorem can_last {e : Ent} (h : CanE e) {l : List Iv} {t : Iv} (he : e.2.2 = l ++ [t]) : t.2 < e.2.1 := by
 have h1 := h.below t (by rw [he]; simp)
 have h2 := h.top
 rcases Nat.lt_or_ge t.2 e.2.1 with h3 | h3
 · exact h3
 · have h4 := (mem_last h.good (s := t) (by rw [he]; simp)).1
   rw [show t.2 = e.2.1 by omega, h2] at h4
   cases h4
set_option maxRecDepth 20000 in
set_option maxHeartbeats 4000000 in
theorem entCanon_can (e : Ent) (a : Option Addr) (n c : Nat) (w : World) (hI : Ivs w a n c e.2.2) (hC : CanE e) (hn : n ≤ 100000) :
 Calls Tryz.prog 155 #[entV e (.slice a n c)] w fun x w' => OfRes w.heap.size (some e) x w' ∧ Below w.heap.size w w' := by
 obtain ⟨r, m, hs⟩ := e
 simp only at hI
 have hlast := fun l t (h : hs = l ++ [t]) => can_last hC (l := l) (t := t) h
 simp only at hlast
 have hlen := hI.len
 have hlt := hI.lt
 have hal : Below w.heap.size w ((w.alloc (.cells #[.int .u64 r, .int .u64 m, .slice a n c] 71)).alloc (.cells #[.int .u64 0, .int .u64 0, .slice none 0 0] 71)) := ((Below.refl _ _).alloc (Nat.le_refl _) _).alloc (by simp) _
 have hrow : ((w.alloc (.cells #[.int .u64 r, .int .u64 m, .slice a n c] 71)).alloc (.cells #[.int .u64 0, .int .u64 0, .slice none 0 0] 71)).heap[w.heap.size + 1]? = some (.cells #[.int .u64 0, .int .u64 0, .slice none 0 0] 71) := row_new (by simp)
 have hbox : ((w.alloc (.cells #[.int .u64 r, .int .u64 m, .slice a n c] 71)).alloc (.cells #[.int .u64 0, .int .u64 0, .slice none 0 0] 71)).heap[w.heap.size]? = some (.cells #[.int .u64 r, .int .u64 m, .slice a n c] 71) := (Below.heap_alloc _ _ _ (by simp)).trans (row_new rfl)
 have hsz : ((w.alloc (.cells #[.int .u64 r, .int .u64 m, .slice a n c] 71)).alloc (.cells #[.int .u64 0, .int .u64 0, .slice none 0 0] 71)).heap.size = w.heap.size + 2 := by simp
 have hRd := (hI.below hal).rd
 have hB := row3_cells hbox
 have b0 := hB.1; have b1 := hB.2.1; have b2 := hB.2.2.1
 clear hI hC hB
 go_enter Tryz.func155, Tryz.ntmps155
 generalize hW : (w.alloc (.cells #[.int .u64 r, .int .u64 m, .slice a n c] 71)).alloc (.cells #[.int .u64 0, .int .u64 0, .slice none 0 0] 71) = W at *
 go_wp2
 go_step3
 go_wp2_with (at_builtin; (refine wpList_append_ivs rfl (.const (.slice none 0 0)) (.tmp 8) rfl rfl W.heap.size _ 0 [] rfl (World.ownsRow_nil _ _ _ _) _ n _ hs rfl hRd (by omega) (Nat.le_refl _) ?_
                           intro v2 w2 ho2 hg2
                           obtain ⟨a2, c2, rfl⟩ := own_slice ho2
                           have hb2 : Below W.heap.size W w2 := Below.grown (Below.refl _ _) hg2 (Nat.le_refl _) (by intro k hk; simp [Value.ownBlock, Act.eval] at hk)
                           have hx2 := row3_cells ((hb2.block _ (by omega)).trans hbox)
                           have x0 := hx2.1; have x1 := hx2.2.1; have x2 := hx2.2.2.1; have x3 := hx2.2.2.2.1; have x4 := hx2.2.2.2.2.1; have x5 := hx2.2.2.2.2.2
                           clear hx2 b0 b1 b2))
 have hz2 := row3_cells (w' := w2.setCell ⟨w.heap.size, 2, none⟩ (.slice a2 (0 + n) c2)) ((Below.heap_setCell _ _ _ _ (by simp)).trans ((hb2.block (w.heap.size + 1) (by omega)).trans hrow))
 have hbig : ∀ k, W.heap.size ≤ k → (w2.setCell ⟨w.heap.size, 2, none⟩ (.slice a2 (0 + n) c2)).heap[k]? = w2.heap[k]? := fun k hk => Below.heap_setCell _ _ _ _ (by simp; omega)
 have hy0 : (w2.setCell ⟨w.heap.size, 2, none⟩ (.slice a2 (0 + n) c2)).cell? ⟨w.heap.size, 0, none⟩ = some (.int .u64 r) := by simp [go_sem, x0]
 have hy1 : (w2.setCell ⟨w.heap.size, 2, none⟩ (.slice a2 (0 + n) c2)).cell? ⟨w.heap.size, 1, none⟩ = some (.int .u64 m) := by simp [go_sem, x1]
 have hy2 : (w2.setCell ⟨w.heap.size, 2, none⟩ (.slice a2 (0 + n) c2)).cell? ⟨w.heap.size, 2, none⟩ = some (.slice a2 (0 + n) c2) := by simp [go_sem, x2]
 have hB3 : Below w.heap.size w (w2.setCell ⟨w.heap.size, 2, none⟩ (.slice a2 (0 + n) c2)) := (hal.trans (hb2.mono hal.size)).setCell (Nat.le_refl _) _
 have ho3 := own_same ho2 (fun k h1 h2 => hbig k h1)
 have hz3 : W.heap.size ≤ (w2.setCell ⟨w.heap.size, 2, none⟩ (.slice a2 (0 + n) c2)).heap.size := by
  have := hb2.size
  rw [World.size_setCell]; exact this
 go_step3
 go_wp2
 simp only [Nat.zero_add] at hz2 hbig hy0 hy1 hy2 hB3 ho3 hz3
 generalize w2.setCell ⟨w.heap.size, 2, none⟩ (.slice a2 n c2) = W3 at *
 have Hz := Lib.hid hz2; have HB3 := Lib.hid hB3; have Ho3 := Lib.hid ho3; have Hz3 := Lib.hid hz3
 have Hsz := Lib.hid hsz
 have Hlast := Lib.hid hlast; have Hlen := Lib.hid hlen; have Hlt := Lib.hid hlt
 clear hz2 hbig hB3 ho3 hz3 x0 x1 x2 x3 x4 x5 hb2 hg2 ho2 hRd hrow hbox hW hal hsz hlast hlen hlt
 go_loopw [4, 5, 6] (fun _ _ _ wr => wr = W3) (fun _ _ _ _ => 0)
 case atStart => rfl
 case round =>
  subst hrel
  have Hy := Lib.hid (And.intro hy0 (And.intro hy1 hy2))
  by_cases hn0 : n = 0
  · have hd : decide (0 < (n : Int)) = false := by rw [decide_eq_false_iff_not]; omega
    have hdn : decide (0 < n) = false := by rw [decide_eq_false_iff_not]; omega
    have hz := Hz.out
    have z0 := hz.1; have z1 := hz.2.1; have z2 := hz.2.2.1; have z3 := hz.2.2.2.1; have z4 := hz.2.2.2.2.1; have z5 := hz.2.2.2.2.2
    clear hz hn0
    go_wp2
    rw [Exit.noGoto_ret]
    refine bodyPost_ret (v := .tuple #[.agg #[.int .u64 r, .int .u64 m, .slice a2 n c2], .bool true]) (by simp [results, Tryz.results155, go_sem, z0, z1, z2]) rfl ?_
    refine ⟨⟨_, rfl, ?_⟩, below_set3 HB3.out (by omega)⟩
    have h := own_same (w' := ((wr.setCell ⟨w.heap.size + 1, 0, none⟩ (.int .u64 r)).setCell ⟨w.heap.size + 1, 1, none⟩ (.int .u64 m)).setCell ⟨w.heap.size + 1, 2, none⟩ (.slice a2 n c2)) Ho3.out (fun k h1 _ => by
     have := Hsz.out
     rw [Below.heap_setCell _ _ _ _ (by simp; omega), Below.heap_setCell _ _ _ _ (by simp; omega), Below.heap_setCell _ _ _ _ (by simp; omega)])
    have h2 := own_mono (b := w.heap.size) h (by have := Hsz.out; omega)
    simpa [Hlen.out] using h2
  · obtain ⟨l, s, rfl⟩ : ∃ l s, hs = l ++ [s] := by
     rcases nil_or_snoc hs with rfl | ⟨l, s, rfl⟩
     · exact absurd (by simpa using Hlen.out.symm) hn0
     · exact ⟨l, s, rfl⟩
    have hlk := Hlen.out
    rw [List.length_append, List.length_singleton] at hlk
    obtain ⟨k, hk⟩ : ∃ k : Nat, k = l.length := ⟨_, rfl⟩
    have hIv := ivs_own Ho3.out (by simpa using Hlt.out)
    obtain ⟨a3, c3, he, hI3⟩ := hIv
    cases he
    obtain ⟨bb, oo, rfl, hcell⟩ := hI3.cells (by omega)
    obtain ⟨k1, k2⟩ := hcell k (by omega)
    rw [show nthI ([] ++ (l ++ [s])) k = s from by rw [hk]; simp [nthI]] at k1 k2
    have hlm := Hlast.out l s rfl
    have hroom := hI3.room
    obtain ⟨sx, sy⟩ := s
    simp only at k1 k2 hlm
    have hd : decide (0 < (n : Int)) = true := by rw [decide_eq_true_iff]; omega
    have hdn : decide (0 < n) = true := by rw [decide_eq_true_iff]; omega
    have hsub : IntKind.i64.wrap ((n : Int) - 1) = (k : Int) := by rw [IntKind.wrap_i64]; omega
    have h01 : (0 : Int) ≤ k := by omega
    have h02 : (k : Int) < (n : Int) := by omega
    have hd1 : decide ((sy : Int) < (m : Int)) = true := by rw [decide_eq_true_iff]; omega
    have hd2 : decide (sy < m) = true := by rw [decide_eq_true_iff]; omega
    have hal : Below wr.heap.size wr (wr.alloc (.cells #[.int .u64 sx, .int .u64 sy] 73)) := (Below.refl _ _).alloc (Nat.le_refl _) _
    have hz := Hz.out
    have z0 := (hal.cell (cell_lt hz.1)).trans hz.1
    have z1 := (hal.cell (cell_lt hz.2.1)).trans hz.2.1
    have z2 := (hal.cell (cell_lt hz.2.2.1)).trans hz.2.2.1
    have z3 := (hal.frozen (p := ⟨w.heap.size + 1, 0, none⟩) (cell_lt hz.1)).trans hz.2.2.2.1
    have z4 := (hal.frozen (p := ⟨w.heap.size + 1, 1, none⟩) (cell_lt hz.2.1)).trans hz.2.2.2.2.1
    have z5 := (hal.frozen (p := ⟨w.heap.size + 1, 2, none⟩) (cell_lt hz.2.2.1)).trans hz.2.2.2.2.2
    have y0 := (hal.cell (cell_lt hy0)).trans hy0
    have y1 := (hal.cell (cell_lt hy1)).trans hy1
    have y2 := (hal.cell (cell_lt hy2)).trans hy2
    have Hal := Lib.hid hal
    clear hz hcell hI3 hlm hn0 hlk hal hk
    go_wp2
    rw [Exit.noGoto_ret]
    refine bodyPost_ret (v := .tuple #[.agg #[.int .u64 r, .int .u64 m, .slice (some ⟨bb, oo, none⟩) n c2], .bool true]) (by simp [results, Tryz.results155, go_sem, z0, z1, z2]) rfl ?_
    refine ⟨⟨_, rfl, ?_⟩, below_set3 (HB3.out.trans (Hal.out.mono HB3.out.size)) (by omega)⟩
    have h := own_same (w' := (((wr.alloc (.cells #[.int .u64 sx, .int .u64 sy] 73)).setCell ⟨w.heap.size + 1, 0, none⟩ (.int .u64 r)).setCell ⟨w.heap.size + 1, 1, none⟩ (.int .u64 m)).setCell ⟨w.heap.size + 1, 2, none⟩ (.slice (some ⟨bb, oo, none⟩) n c2)) Ho3.out (fun k h1 h2 => by
     have := Hsz.out
     rw [Below.heap_setCell _ _ _ _ (by simp; omega), Below.heap_setCell _ _ _ _ (by simp; omega), Below.heap_setCell _ _ _ _ (by simp; omega), Below.heap_alloc _ _ _ h2])
    have h2 := own_mono (b := w.heap.size) h (by have := Hsz.out; omega)
    have e : (l ++ [(sx, sy)]).length = n := Hlen.out
    rw [List.nil_append] at h2
    simp only [e]
    exact h2
set_option maxRecDepth 20000 in
set_option maxHeartbeats 2000000 in
theorem vecCanon_can (a : Option Addr) (n cap : Nat) (v : Vec) (w : World) (hE : Ents w a n cap v) (hC : CanV v) (hF : VecFits v) :
 Calls Tryz.prog 109 #[.slice a n cap] w fun x w' => (∃ y, x = .returned y ∧ OwnV w' w.heap.size y v) ∧ Below w.heap.size w w' := by
 have HE := Lib.hid hE; have HF := Lib.hid hF; have HC := Lib.hid hC
 have Hl := Lib.hid hE.len
 have hm : n ≤ 9223372036854775807 := Nat.le_trans hE.room hE.most
 have hn3 : n ≤ 300 := by rw [← hE.len]; exact hF.len
 clear hE hF hC
 go_enter Tryz.func109, Tryz.ntmps109
 go_wp2
 go_loopw [3, 5, 6, 7, 10] (fun y _ _ _ i wr => ∃ k : Nat, k ≤ n ∧ i = .int .i64 k ∧ Below w.heap.size w wr ∧ Hid (OwnV wr w.heap.size y (v.take k))) (fun _ _ _ _ i _ => n - (intOf i).toNat)
 case atStart => exact ⟨0, by omega, rfl, Below.refl _ _, by rw [List.take_zero]; exact ownV_nil _ _⟩
 case round =>
  obtain ⟨k, hk, rfl, hb, ho⟩ := hrel
  have Hb := Lib.hid hb; clear hb
  by_cases hkn : k < n
  · have hkv : k < v.length := by rw [Hl.out]; exact hkn
    have HEr := Lib.hid (HE.out.below Hb.out)
    obtain ⟨bb, oo, rfl⟩ := HEr.out.some (by omega)
    have Hlt := Lib.hid (HE.out.lt (nthE v k) (nthE_mem hkv))
    have Hho := Lib.hid (HF.out.holes (nthE v k) (nthE_mem hkv))
    have hce := HC.out.ent (nthE v k) (nthE_mem hkv)
    have Hst := Lib.hid (show v.take (k + 1) = v.take k ++ [nthE v k] from by rw [List.take_succ_eq_append_getElem hkv, nthE_get hkv])
    have HoL := Lib.hid (show (v.take k).length ≤ 300 from by rw [List.length_take]; omega)
    obtain ⟨x, m, c, hq⟩ := HEr.out.fix hkn
    obtain ⟨q1, q2, q3, q4⟩ := hq _ (Below.refl _ _)
    have hal : Below wr.heap.size wr (wr.alloc (.cells #[.int .u64 (nthE v k).1, .int .u64 (nthE v k).2.1, .slice x m c] 71)) := (Below.refl _ _).alloc (Nat.le_refl _) _
    have hD := Lib.hid (entCanon_can (nthE v k) x m c _ (q4.below hal) hce (by rw [← q4.len]; have := Hho.out; omega))
    have HX := Lib.hid (box3 wr (.int .u64 (nthE v k).1) (.int .u64 (nthE v k).2.1) (.slice x m c) 71 _ (Below.refl _ _))
    have Hal := Lib.hid hal
    clear hal hce q4 hq
    generalize v.take k = T at *
    have h0 : (0 : Int) ≤ k := by omega
    have h04 : (k : Int) < (n : Int) := by omega
    have hx := HX.out
    generalize nthE v k = e at *
    obtain ⟨er, em, eh⟩ := e
    simp only at q1 q2 q3 hx Hal
    obtain ⟨x0, x1, x2⟩ := hx
    clear HX
    go_wp2_with fail
    refine hD.out.mono ?_
    rintro z w1 ⟨hz, hb1⟩
    obtain ⟨sa, sc, rfl, hs⟩ := ofRes_own hz Hlt.out.holes
    simp only at hs
    have Hs := Lib.hid (hs 0)
    have Hb1 := Lib.hid (Hb.out.trans ((Hal.out.trans (hb1.mono Hal.out.size)).mono Hb.out.size))
    have Ho1 := Lib.hid (ho.out.below (Hal.out.trans (hb1.mono Hal.out.size)))
    have hal2 : Below w1.heap.size w1 ((w1.alloc (.cells #[.int .u64 er, .int .u64 em, .slice sa eh.length sc] 71)).alloc (.cells #[.int .u64 er, .int .u64 em, .slice sa eh.length sc] 71)) :=
     ((Below.refl w1.heap.size w1).alloc (Nat.le_refl _) _).alloc (by simp) _
    have Hal2 := Lib.hid hal2
    clear hb1 hs hz hal2 x0 x1 x2
    go_wp2_with (at_builtin; refine wpList_append_ent rfl (.tmp 20) (.tmp 22) rfl rfl w.heap.size _ T rfl (Ho1.out.below Hal2.out) _ 1 (er, em, eh) sa eh.length sc (Hs.out.steady (P := fun _ => True) (.of_below Hal2.out) trivial) rfl (rd_block (heap_at_new _ _ _ (by simp)) rfl rfl) (by have := HoL.out; omega) (by have := Hb1.out.size; simp; omega) ?_; intro v' w7 ho7 hg7 _)
    have Hb7 := Lib.hid (Below.grown (Hb1.out.trans (Hal2.out.mono Hb1.out.size)) hg7 (by have := Hb1.out.size; have := Hal2.out.size; omega) (fun k hk => (Ho1.out.lt k hk).1))
    go_roundw
    case rel => exact ⟨k + 1, by omega, by go_num, Hb7.out, by first | (rw [Hst.out]; exact ho7) | (trace_state; fail)⟩
    case measure => simp [intOf]; omega
  · obtain rfl : k = n := by omega
    have Ho := Lib.hid ho.out
    rw [show v.take k = v from List.take_of_length_le (by rw [Hl.out]; exact Nat.le_refl _)] at Ho
    go_wp2
    go_ret
    exact ⟨⟨_, rfl, Ho.out⟩, Hb.out⟩
end
section
open Go.RowKit Go.Maps
def bndTo (k : Kno) (d e x : Nat) : Prop := x = 0 ∨ (∃ f ∈ k.take d, x ∈ bnds f.1) ∨ x ∈ bnds ((nthF k d).1.take e)
theorem bndTo_start (k : Kno) (x : Nat) : bndTo k 0 0 x ↔ x = 0 := by simp [bndTo, bnds]
theorem bndTo_all (k : Kno) (x : Nat) : bndTo k k.length 0 x ↔ x ∈ allK k := by
 rw [allK_mem]; simp [bndTo, bnds]
theorem bndTo_next {k : Kno} {d : Nat} (hd : d < k.length) (x : Nat) : bndTo k d (nthF k d).1.length x ↔ bndTo k (d + 1) 0 x := by
 unfold bndTo
 have hs : k.take (d + 1) = k.take d ++ [nthF k d] := by rw [List.take_succ_eq_append_getElem hd, nthF_get hd]
 rw [hs, List.take_length]
 simp [bnds]
theorem bndTo_step {k : Kno} {d e : Nat} (he : e < (nthF k d).1.length) (x : Nat) : bndTo k d (e + 1) x ↔ ((bndTo k d e x ∨ x = (nthI (nthF k d).1 e).1) ∨ ((nthI (nthF k d).1 e).2 < 18446744073709551615 ∧ x = (nthI (nthF k d).1 e).2 + 1)) := by
 unfold bndTo
 rw [List.take_succ_eq_append_getElem he, bnds_append, List.mem_append, ← nthI_get he]
 have : bnds [nthI (nthF k d).1 e] = bnd (nthI (nthF k d).1 e) := by simp [bnds]
 rw [this, mem_bnd]
 simp only [or_assoc]
def rB (v : Value) : Option (DataW Value × List MemPlace) :=
 match v with
 | .bool b => some (.lit (.bool b), [])
 | _ => none
structure SetS (w : World) (B n : Nat) (D : DataW Value) (S : Nat → Prop) : Prop where
 own : w.ownsMap Tryz.prog 24 rB B n D
 keys : ∀ r : Nat, Maps.has D (.int .u64 (r : Int)) = true ↔ S r
theorem SetS.put {w w' : World} {B n m x : Nat} {D : DataW Value} {S S' : Nat → Prop} (h : SetS w B n D S) (hown : w'.ownsMap Tryz.prog 24 rB B m (D.put (.int .u64 (x : Int)) (.lit (.bool true)))) (hS : ∀ r, S' r ↔ S r ∨ r = x) : SetS w' B m (D.put (.int .u64 (x : Int)) (.lit (.bool true))) S' := by
 refine ⟨hown, fun r => ?_⟩
 rw [hS r]
 by_cases e : r = x
 · subst e; rw [has_put_same h.own.isMap (show WideAt.IsKeyLit (.int .u64 (r : Int)) from trivial)]; simp
 · rw [has_put_other (litU_inj e), h.keys r]; simp [e]
theorem SetS.kept {w w' : World} {B n : Nat} {D : DataW Value} {S : Nat → Prop} (h : SetS w B n D S) (hb : Below w.heap.size w w') : SetS w' B n D S := ⟨h.own.kept (grown_of_below hb) (by simp), h.keys⟩
theorem SetS.congr {w : World} {B n : Nat} {D : DataW Value} {S S' : Nat → Prop} (h : SetS w B n D S) (hS : ∀ r, S r ↔ S' r) : SetS w B n D S' := ⟨h.own, fun r => (h.keys r).trans (hS r)⟩
theorem wpList_insert_own {H : Type} {P : Program} (w : World) {ops : Array Oper} {rest : List Oper} {o : Oper} {a : Act} {Q : Exit → Act → World → Prop}
 (hg : o.guard = none) (m x v : Operand) (t : TypeId) (hop : o.op = Op.insert t m x v)
 (k e : TypeId) (K : Keyed P k) (ht : P.underlying t = some (.map k e)) (R : Value → Option (DataW H × List MemPlace)) (b n : Nat) (D : DataW H)
 (hm : a.eval m = .map (some b)) (hown : w.ownsMap P k R b n D) (hn : n < maxLen) (key val : Value) (kl : Lit) (hx : a.eval x = key) (hv : a.eval v = val) (hkey : keyOf P k key = some kl)
 (d : DataW H) (ps : List MemPlace) (hval : R val = some (d, ps))
 (hK : ∀ w', w'.ownsMap P k R b (n + 1) (D.put kl d) → w.grownBy w' (some b) → wpList P ops Q rest (a.put o.dst undef) w') :
 wpList P ops Q (o :: rest) a w := by
 refine wpList_plain hg fun K' hK' => ?_
 obtain ⟨w', hrun, r1, r2⟩ := hown.update K ht hn hkey hval
 unfold Oper.wp
 simp [execOp, hop, hm, hx, hv, hrun, Result.andThen]
 exact hK' _ _ (hK w' r1 r2)
structure Sift (k : Kno) (D : DataW Value) (left : Lit → Bool) : Prop where
 keys : ∀ r : Nat, Maps.has D (.int .u64 (r : Int)) = true ↔ (r ∈ allK k ∧ (left (.int .u64 (r : Int)) = true ∨ r ∈ startsK k))
theorem sameU' (x y : Nat) : Lit.sameKey (.int .u64 (x : Int)) (.int .u64 (y : Int)) = decide (x = y) := by
 by_cases e : x = y
 · subst e; simp [WideAt.sameKey_self (show WideAt.IsKeyLit (.int .u64 (x : Int)) from trivial)]
 · rw [sameKey_ne (litU_inj e), decide_eq_false e]
theorem Sift.start {k : Kno} {D : DataW Value} (h : ∀ r : Nat, Maps.has D (.int .u64 (r : Int)) = true ↔ r ∈ allK k) : Sift k D (Maps.has D) :=
 ⟨fun r => by rw [h r]; constructor
              · exact fun hr => ⟨hr, .inl hr⟩
              · exact fun hr => hr.1⟩
theorem Sift.stay {k : Kno} {D : DataW Value} {left : Lit → Bool} (h : Sift k D left) {x : Nat} (hx : x ∈ startsK k) : Sift k D (fun z => left z && !z.sameKey (.int .u64 (x : Int))) := by
 refine ⟨fun r => ?_⟩
 rw [h.keys r, sameU']
 by_cases e : r = x
 · subst e
   constructor
   · exact fun h1 => ⟨h1.1, .inr hx⟩
   · exact fun h1 => ⟨h1.1, .inr hx⟩
 · simp [e]
theorem Sift.drop {k : Kno} {D : DataW Value} {left : Lit → Bool} (h : Sift k D left) {x : Nat} (hx : x ∉ startsK k) : Sift k (D.del (.int .u64 (x : Int))) (fun z => left z && !z.sameKey (.int .u64 (x : Int))) := by
 refine ⟨fun r => ?_⟩
 rw [sameU']
 by_cases e : r = x
 · subst e
   rw [has_del_same]
   simp [hx]
 · rw [has_del_other (litU_inj e), h.keys r]
   simp [e]
theorem Sift.all {k : Kno} {D : DataW Value} {left : Lit → Bool} (h : Sift k D left) (hl : ∀ kl, left kl = false) (r : Nat) : Maps.has D (.int .u64 (r : Int)) = true ↔ r ∈ startsK k := by
 rw [h.keys r, hl]
 constructor
 · rintro ⟨-, h1 | h1⟩
   · cases h1
   · exact h1
 · exact fun h1 => ⟨(startsK_mem.1 h1).1, .inr h1⟩
structure Coll (D : DataW Value) (left : Lit → Bool) (L : List Nat) : Prop where
 nodup : L.Nodup
 mem : ∀ x : Nat, x ∈ L ↔ (Maps.has D (.int .u64 (x : Int)) = true ∧ left (.int .u64 (x : Int)) = false)
theorem Coll.start (D : DataW Value) : Coll D (Maps.has D) [] := ⟨List.nodup_nil, fun x => by cases Maps.has D (.int .u64 (x : Int)) <;> simp⟩
theorem Coll.step {D : DataW Value} {left : Lit → Bool} {L : List Nat} (h : Coll D left L) {x : Nat} (hh : Maps.has D (.int .u64 (x : Int)) = true) (hl : left (.int .u64 (x : Int)) = true) : Coll D (fun z => left z && !z.sameKey (.int .u64 (x : Int))) (L ++ [x]) := by
 have hn : x ∉ L := fun hx => by
  have := ((h.mem x).1 hx).2
  rw [hl] at this; cases this
 refine ⟨List.nodup_append.2 ⟨h.nodup, by simp, fun a ha b hb => by simp at hb; subst hb; exact fun e => hn (e ▸ ha)⟩, fun y => ?_⟩
 rw [List.mem_append, List.mem_singleton, h.mem y, sameU']
 by_cases e : y = x
 · subst e; simp [hh]
 · simp [e]
theorem sorted_asc : ∀ {M : List Nat}, M.Pairwise (· ≤ ·) → M.Nodup → Asc M
 | [], _, _ => trivial
 | a :: l, h, hn => by
   obtain ⟨h1, h2⟩ := List.pairwise_cons.1 h
   obtain ⟨h3, h4⟩ := List.nodup_cons.1 hn
   refine asc_cons (fun y hy => ?_) (sorted_asc h2 h4)
   have := h1 y hy
   have : a ≠ y := fun e => h3 (e ▸ hy)
   omega
theorem coll_sorted {k : Kno} {D : DataW Value} {left : Lit → Bool} {L M : List Nat} (h : Coll D left L) (hl : ∀ kl, left kl = false) (hk : ∀ r : Nat, Maps.has D (.int .u64 (r : Int)) = true ↔ r ∈ startsK k) (hp : M.Perm L) (hM : M.Pairwise (· ≤ ·)) : M = startsK k :=
 asc_ext (sorted_asc hM (hp.nodup_iff.2 h.nodup)) (startsK_asc k) fun x => by rw [hp.mem_iff, h.mem x, hl, ← hk x]; simp
end
section
open Go.RowKit
set_option maxRecDepth 20000 in
set_option maxHeartbeats 4000000 in
theorem insU_any (g o c a b : Nat) (d : Array Nat) (w : World) (hH : Sort.Holds encU w g o d) (hab : a ≤ b) (hb : b ≤ d.size) (hsz : d.size < 4611686018427387904) :
 Calls Tryz.prog 218 #[.slice (some ⟨g, o, none⟩) d.size c, .int .i64 a, .int .i64 b] w fun e w' =>
  e = .returned (.tuple #[]) ∧ ∃ n, w' = Sort.putRow encU (Sort.ahead w n) g o (Sort.insertionSort ltU d a b) := by
 have HH := Lib.hid hH
 have H0 := Lib.hid (Sort.putRow_self encU w g o d hH).symm
 clear hH
 go_enter Tryz.func218, Tryz.ntmps218
 go_wp2
 go_loopw [6] (fun vi wr => ∃ (i n : Nat) (dk : Array Nat), vi = .int .i64 i ∧ a < i ∧ i ≤ b + 1 ∧ dk.size = d.size ∧ Hid (wr = Sort.putRow encU (Sort.ahead w n) g o dk) ∧
  Hid (Sort.insOuter ltU a b i dk = Sort.insOuter ltU a b (a + 1) d)) (fun vi _ => b + 1 - (intOf vi).toNat)
 case atStart => exact ⟨a + 1, 0, d, by go_num, by omega, by omega, rfl, H0, rfl⟩
 case round =>
  obtain ⟨i, n, dk, rfl, hai, hib, hsk, HW, HO⟩ := hrel
  by_cases hlt : i < b
  · go_wp2
    go_loopw [7] (fun vj wr2 => ∃ (j m : Nat) (dj : Array Nat), vj = .int .i64 j ∧ a ≤ j ∧ j ≤ i ∧ dj.size = d.size ∧ Hid (wr2 = Sort.putRow encU (Sort.ahead w m) g o dj) ∧
     Hid (Sort.insInner ltU a j dj = Sort.insInner ltU a i dk)) (fun vj _ => (intOf vj).toNat)
    case atStart => exact ⟨i, n, dk, rfl, by omega, Nat.le_refl _, hsk, HW, rfl⟩
    case round =>
     obtain ⟨j, m, dj, rfl, haj, hji, hsj, HW2, HI⟩ := hrel
     obtain ⟨G, ⟨hcw, hfw, hG⟩⟩ := cellsU (holdsU HH.out hsj HW2.out) hsj
     have HG := Lib.hid hG
     have OUT := Lib.hid (fun (hs : j ≤ a ∨ ltU dj[j]! dj[j - 1]! = false) q => show ∃ (i' n' : Nat) (dk' : Array Nat), Value.int .i64 ((i : Int) + 1) = .int .i64 (i' : Nat) ∧ a < i' ∧ i' ≤ b + 1 ∧ dk'.size = d.size ∧
      Hid (wr.drewN q = Sort.putRow encU (Sort.ahead w n') g o dk') ∧ Hid (Sort.insOuter ltU a b i' dk' = Sort.insOuter ltU a b (a + 1) d) from
      ⟨i + 1, m + q, dj, by go_num, by omega, by omega, hsj, (by rw [HW2.out]; exact putRow_drewN _ _ _ _ _ _ _),
       (by show _ = _; rw [← HO.out, insOuter_go _ _ _ _ _ hlt, ← HI.out, insInner_stop _ _ _ _ hs])⟩)
     clear hG
     go_wp2
     by_cases hja : a < j
     · go_quiet (first | (go_at_call 224; refine Calls.quiet_of_same (lessU_any _ _ _)))
       go_wp2
       · have hl : ltU (G j) (G (j - 1)) = true := by assumption
         go_region
         all_goals go_wp2
         go_roundw
         case rel =>
          refine ⟨j - 1, m + (nq + 1), Sort.swp dj j (j - 1), by congr 1; omega, by omega, by omega, by rw [Sort.size_swp]; exact hsj, ?_, ?_⟩
          · show _ = _
            rw [HG.out, HG.out]
            exact swapU HW2.out (nq + 1) j (j - 1) (by omega) (by omega)
          · show _ = _
            rw [← HI.out, insInner_go ltU a j dj hja (by rw [← HG.out, ← HG.out]; exact hl)]
         case measure => simp [intOf]; omega
       · have hl : ltU (G j) (G (j - 1)) = false := by assumption
         go_roundw
         case rel => exact OUT.out (Or.inr (by rw [← HG.out, ← HG.out]; exact hl)) nq
         case measure => simp [intOf]; omega
     · go_quiet (first | (go_at_call 224; refine Calls.quiet_of_same (lessU_any _ _ _)))
       go_wp2
       go_roundw
       case rel => exact OUT.out (Or.inl (by omega)) nq
       case measure => simp [intOf]; omega
  · go_wp2
    go_end0
    exact ⟨rfl, n, by rw [HW.out]; unfold Sort.insertionSort; rw [← HO.out, insOuter_stop _ _ _ _ _ hlt]⟩
set_option maxRecDepth 20000 in
set_option maxHeartbeats 4000000 in
theorem revU_any (g o c a b : Nat) (d : Array Nat) (w : World) (hH : Sort.Holds encU w g o d) (hab : a ≤ b) (hb : b ≤ d.size) (hsz : d.size < 4611686018427387904) :
 Calls Tryz.prog 222 #[.slice (some ⟨g, o, none⟩) d.size c, .int .i64 a, .int .i64 b] w fun e w' =>
  e = .returned (.tuple #[]) ∧ ∃ n, w' = Sort.putRow encU (Sort.ahead w n) g o (Sort.reverseRange d a b) := by
 have HH := Lib.hid hH
 have H0 := Lib.hid (Sort.putRow_self encU w g o d hH).symm
 clear hH
 go_enter Tryz.func222, Tryz.ntmps222
 go_wp2
 go_loopw [6, 7] (fun vi vj wr => ∃ (i q n : Nat) (z : Int) (dk : Array Nat), vi = .int .i64 i ∧ vj = .int .i64 z ∧ ((i : Int) < z → z = q ∧ q < d.size) ∧ (¬ (i : Int) < z → ¬ i < q) ∧ dk.size = d.size ∧
  i ≤ d.size ∧ -1 ≤ z ∧ z ≤ d.size ∧ Hid (wr = Sort.putRow encU (Sort.ahead w n) g o dk) ∧ Hid (Sort.reverseLoop i q dk = Sort.reverseLoop a (b - 1) d)) (fun vi vj _ => (intOf vj - intOf vi).toNat)
 case atStart => exact ⟨a, b - 1, 0, (b : Int) - 1, d, rfl, rfl, fun h => ⟨by omega, by omega⟩, fun h => by omega, rfl, by omega, by omega, by omega, H0, rfl⟩
 case round =>
  obtain ⟨i, q, n, z, dk, rfl, rfl, h1, h2, hs, hi, hz1, hz2, HW, HR⟩ := hrel
  by_cases hlt : (i : Int) < z
  · obtain ⟨rfl, hq⟩ := h1 hlt
    have hiq : i < q := by omega
    obtain ⟨G, ⟨hcw, hfw, hG⟩⟩ := cellsU (holdsU HH.out hs HW.out) hs
    have HG := Lib.hid hG
    clear hG h1 h2
    go_wp2_with fail
    go_region
    go_wp2
    go_roundw
    case rel =>
     refine ⟨i + 1, q - 1, n + 1, (q : Int) - 1, Sort.swp dk i q, by go_num, rfl, fun h => ⟨by omega, by omega⟩, fun h => by omega, by rw [Sort.size_swp]; exact hs, by omega, by omega, by omega, ?_, ?_⟩
     · show _ = _
       rw [HG.out, HG.out]
       exact swapU HW.out 1 i q (by omega) (by omega)
     · show _ = _
       rw [← HR.out]
       conv => rhs; rw [Sort.reverseLoop, if_pos hiq]
    case measure => simp [intOf]; omega
  · have hn := h2 hlt
    go_wp2
    go_end0
    refine ⟨rfl, n, ?_⟩
    rw [HW.out]
    unfold Sort.reverseRange
    rw [← HR.out, Sort.reverseLoop, if_neg hn]
set_option maxRecDepth 20000 in
set_option maxHeartbeats 8000000 in
theorem siftU_any (g o c root hi f : Nat) (d : Array Nat) (w : World) (hH : Sort.Holds encU w g o d) (hlo : root ≤ hi) (hb : f + hi ≤ d.size) (hsz : d.size < 4611686018427387904) :
 Calls Tryz.prog 232 #[.slice (some ⟨g, o, none⟩) d.size c, .int .i64 root, .int .i64 hi, .int .i64 f] w fun e w' =>
  e = .returned (.tuple #[]) ∧ ∃ n, w' = Sort.putRow encU (Sort.ahead w n) g o (Sort.siftDown ltU hi f root d) := by
 have HH := Lib.hid hH
 have H0 := Lib.hid (Sort.putRow_self encU w g o d hH).symm
 clear hH
 go_enter Tryz.func232, Tryz.ntmps232
 go_wp2
 go_loopw [8, 9] (fun vr _ wr => ∃ (r n : Nat) (dk : Array Nat), vr = .int .i64 r ∧ r ≤ hi ∧ dk.size = d.size ∧ Hid (wr = Sort.putRow encU (Sort.ahead w n) g o dk) ∧ Hid (Sort.siftDown ltU hi f r dk = Sort.siftDown ltU hi f root d)) (fun vr _ _ => hi - (intOf vr).toNat)
 case atStart => exact ⟨root, 0, d, rfl, hlo, rfl, H0, rfl⟩
 case round =>
  obtain ⟨r, n, dk, rfl, hr, hs, HW, HR⟩ := hrel
  by_cases h0 : hi ≤ 2 * r + 1
  · have h0z : (hi : Int) ≤ 2 * (r : Int) + 1 := by omega
    go_wp2
    go_end0
    exact ⟨rfl, n, by rw [HW.out, ← HR.out, Sort.sd_end ltU dk h0]⟩
  · have h0z : ¬ ((hi : Int) ≤ 2 * (r : Int) + 1) := by omega
    obtain ⟨G, ⟨hcw, hfw, hG⟩⟩ := cellsU (holdsU HH.out hs HW.out) hs
    have HG := Lib.hid hG
    clear hG
    obtain ⟨z, hz⟩ : ∃ z : Bool, z = (decide (2 * r + 2 < hi) && ltU (G (f + (2 * r + 1))) (G (f + (2 * r + 2)))) := ⟨_, rfl⟩
    have Hz := Lib.hid hz
    obtain ⟨k, hk⟩ : ∃ k, k = if z = true then 2 * r + 2 else 2 * r + 1 := ⟨_, rfl⟩
    have hz1 : z = true → 2 * r + 2 < hi ∧ ltU (G (f + (2 * r + 1))) (G (f + (2 * r + 2))) = true := fun h => by rw [hz] at h; simpa using h
    have hz2 : z = false → 2 * r + 2 < hi → ltU (G (f + (2 * r + 1))) (G (f + (2 * r + 2))) = false := fun h h2 => by rw [hz] at h; simpa [h2] using h
    have hkh : k < hi := by
     rw [hk]; split
     · rename_i h; exact (hz1 h).1
     · omega
    have hkr : r < k := by rw [hk]; split <;> omega
    have STOP := Lib.hid (fun (h : ltU (G (f + r)) (G (f + k)) = false) => show Sort.siftDown ltU hi f r dk = dk from by
     rw [HG.out, HG.out] at h
     cases hc : z with
     | true =>
      rw [hk, if_pos hc] at h
      exact Sort.sd_right_stop ltU dk (hz1 hc).1 (by rw [← HG.out, ← HG.out]; exact (hz1 hc).2) h
     | false =>
      rw [hk, if_neg (by rw [hc]; simp)] at h
      exact Sort.sd_left_stop ltU dk (by omega) (fun h2 => by rw [← HG.out, ← HG.out]; exact hz2 hc h2) h)
    have GO := Lib.hid (fun (h : ltU (G (f + r)) (G (f + k)) = true) => show Sort.siftDown ltU hi f r dk = Sort.siftDown ltU hi f k (Sort.swp dk (f + r) (f + k)) from by
     rw [HG.out, HG.out] at h
     cases hc : z with
     | true =>
      rw [hk, if_pos hc] at h ⊢
      exact Sort.sd_right_go ltU dk (hz1 hc).1 (by rw [← HG.out, ← HG.out]; exact (hz1 hc).2) h
     | false =>
      rw [hk, if_neg (by rw [hc]; simp)] at h ⊢
      exact Sort.sd_left_go ltU dk (by omega) (fun h2 => by rw [← HG.out, ← HG.out]; exact hz2 hc h2) h)
    have Hkt := Lib.hid (fun h : z = true => show k = 2 * r + 2 by rw [hk, if_pos h])
    have Hkf := Lib.hid (fun h : z = false => show k = 2 * r + 1 by rw [hk, if_neg (by rw [h]; simp)])
    clear hk hz hz1 hz2
    go_wp2_with fail
    go_cut [36] (fun v wc => v = .bool z ∧ ∃ q, Hid (wc = wr.drewN q))
    case first =>
     by_cases h1 : 2 * r + 2 < hi
     · have h1z : 2 * (r : Int) + 1 + 1 < (hi : Int) := by omega
       go_quiet (first | (go_at_call 224; refine Calls.quiet_of_same (lessU_any _ _ _)))
       go_wp2
       go_meet
       refine ⟨?_, nq, rfl⟩
       rw [Hz.out]
       simp [h1, Nat.add_assoc]
     · have h1z : ¬ 2 * (r : Int) + 1 + 1 < (hi : Int) := by omega
       go_quiet (first | (go_at_call 224; refine Calls.quiet_of_same (lessU_any _ _ _)))
       go_wp2
       go_meet
       refine ⟨?_, nq, rfl⟩
       rw [Hz.out]
       simp [h1]
    case rest =>
     obtain ⟨rfl, q, HC⟩ := hcut
     have hcw2 : ∀ t, t < d.size → wc.cell? ⟨g, o + t, none⟩ = some (.int .u64 (G t : Int)) := by rw [HC.out]; exact hcw
     have hfw2 : ∀ t, t < d.size → wc.frozen? ⟨g, o + t, none⟩ = false := by rw [HC.out]; exact hfw
     have HS := Lib.hid (fun q2 (h : ltU (G (f + r)) (G (f + k)) = false) => show ∃ n, wc.drewN q2 = Sort.putRow encU (Sort.ahead w n) g o (Sort.siftDown ltU hi f root d) from
      ⟨n + q + q2, by rw [HC.out, HW.out, putRow_drewN, putRow_drewN, ← HR.out, STOP.out h]⟩)
     have HT := Lib.hid (fun q2 (h : ltU (G (f + r)) (G (f + k)) = true) => show ∃ n2, (((wc.drewN q2).setCell ⟨g, o + (f + r), none⟩ (encU (G (f + k)))).setCell ⟨g, o + (f + k), none⟩ (encU (G (f + r)))) = Sort.putRow encU (Sort.ahead w n2) g o (Sort.swp dk (f + r) (f + k)) from
      ⟨n + q + q2, by rw [HG.out, HG.out]; exact swapU (by rw [HC.out, HW.out, putRow_drewN]) q2 (f + r) (f + k) (by omega) (by omega)⟩)
     clear hcw hfw
     cases z with
     | true =>
      have hk := Hkt.out rfl
      subst hk
      go_wp2_with fail
      go_quiet (first | (go_at_call 224; refine Calls.quiet_of_same (lessU_any _ _ _)))
      go_wp2_with fail
      · have hl : (!ltU (G (f + r)) (G (f + 2 * r + 2))) = true := by assumption
        (try simp only [Exit.inBlock, Exit.then])
        refine bodyPost_ret (results_none rfl _ _ _) rfl ?_
        exact ⟨rfl, HS.out nq (by rw [← Nat.add_assoc]; simpa using hl)⟩
      · have hl : (!ltU (G (f + r)) (G (f + 2 * r + 2))) = false := by assumption
        have hl2 : ltU (G (f + r)) (G (f + (2 * r + 2))) = true := by rw [← Nat.add_assoc]; simpa using hl
        obtain ⟨n2, hn2⟩ := HT.out (nq + 1) hl2
        have Hn2 := Lib.hid hn2
        have Hgo := Lib.hid (GO.out hl2)
        clear hn2 hl2
        go_region
        all_goals go_wp2
        go_roundw
        case rel =>
         refine ⟨2 * r + 2, n2, Sort.swp dk (f + r) (f + (2 * r + 2)), by go_num, by omega, by rw [Sort.size_swp]; exact hs, ?_, ?_⟩
         · show _ = _
           rw [← Hn2.out]
           rfl
         · show _ = _
           rw [← HR.out, Hgo.out]
        case measure => simp [intOf]; omega
     | false =>
      have hk := Hkf.out rfl
      subst hk
      go_wp2_with fail
      go_quiet (first | (go_at_call 224; refine Calls.quiet_of_same (lessU_any _ _ _)))
      go_wp2_with fail
      · have hl : (!ltU (G (f + r)) (G (f + 2 * r + 1))) = true := by assumption
        (try simp only [Exit.inBlock, Exit.then])
        refine bodyPost_ret (results_none rfl _ _ _) rfl ?_
        exact ⟨rfl, HS.out nq (by rw [← Nat.add_assoc]; simpa using hl)⟩
      · have hl : (!ltU (G (f + r)) (G (f + 2 * r + 1))) = false := by assumption
        have hl2 : ltU (G (f + r)) (G (f + (2 * r + 1))) = true := by rw [← Nat.add_assoc]; simpa using hl
        obtain ⟨n2, hn2⟩ := HT.out (nq + 1) hl2
        have Hn2 := Lib.hid hn2
        have Hgo := Lib.hid (GO.out hl2)
        clear hn2 hl2
        go_region
        all_goals go_wp2
        go_roundw
        case rel =>
         refine ⟨2 * r + 1, n2, Sort.swp dk (f + r) (f + (2 * r + 1)), by go_num, by omega, by rw [Sort.size_swp]; exact hs, ?_, ?_⟩
         · show _ = _
           rw [← Hn2.out]
           rfl
         · show _ = _
           rw [← HR.out, Hgo.out]
        case measure => simp [intOf]; omega
end
end Go.Proofs.YtkkdlgcfcbaibaaGreatDoor
