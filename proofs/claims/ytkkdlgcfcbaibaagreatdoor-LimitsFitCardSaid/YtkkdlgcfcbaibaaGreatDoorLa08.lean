/- Walks and laws, joined: La08. -/
import Derived.OwnWalkIn
import Derived.TacticsInMore
import Derived.LoopNIn
import Derived.LoopIn
import Derived.Shelf.RegionOpen
import Derived.Deep.DeepCutAuto
import Derived.Deep.CutBlock
import Derived.StillTailTactics
import Derived.BigRegion
import Derived.RangeFuncRecord
import Derived.Test.YtkkdlgcfcbaibaaGreatDoorLa07
import Derived.Test.YtkkdlgcfcbaibaaGreatDoorLa04
import Derived.Test.YtkkdlgcfcbaibaaGreatDoorLa02
set_option linter.unusedVariables false
namespace Go.Proofs.YtkkdlgcfcbaibaaGreatDoor
section
open Go.RowKit Go.Shelf
attribute [local go_sem] Oper.semAt_some
theorem pieces_any (x y : Option Addr) (n m c d : Nat) (w : World) :
 Calls Tryz.prog 168 #[.slice x n c, .slice y m d] w fun e w' => e = .returned (.func (.func 199) #[] #[.pointer (some ⟨w.heap.size, 0, none⟩), .pointer (some ⟨w.heap.size + 1, 0, none⟩)]) ∧
  w' = (w.alloc (.cells #[.slice x n c] 28)).alloc (.cells #[.slice y m d] 28) := by
 go_enter Tryz.func168, Tryz.ntmps168
 go_wp2
 go_ret
 exact ⟨rfl, rfl⟩
def pcE (p : Pc) : Array Value := #[ivV p.1, .agg #[.bool p.2.1, .bool p.2.2]]
def lenV : Value → Nat
 | .slice _ n _ => n
 | _ => 0
def lenAt (W : World) (b : Nat) : Nat := match W.heap[b]? with | some (.cells C _ _) => lenV (C.getD 0 (.bool false)) | _ => 0
def BoxI (w0 W : World) (b : Nat) (l : List Iv) : Prop := ∃ a n c, W.heap[b]? = some (.cells #[.slice a n c] 28) ∧ Ivs w0 a n c l
theorem box_set {W : World} {b : Nat} {v u : Value} {t : TypeId} (h : W.heap[b]? = some (.cells #[v] t)) : (W.setCell ⟨b, 0, none⟩ u).heap[b]? = some (.cells #[u] t) := by
 simp [World.setCell, Array.getElem?_modify, h]
theorem box_cell {W : World} {b : Nat} {v : Value} {t : TypeId} (h : W.heap[b]? = some (.cells #[v] t)) : W.cell? ⟨b, 0, none⟩ = some v := by simp [World.cell?, h]
theorem box_frozen {W : World} {b : Nat} {v : Value} {t : TypeId} (h : W.heap[b]? = some (.cells #[v] t)) : W.frozen? ⟨b, 0, none⟩ = false := by simp [World.frozen?, h]
theorem box_len {w0 W : World} {b : Nat} {l : List Iv} (h : BoxI w0 W b l) : lenAt W b = l.length := by
 obtain ⟨a, n, c, h1, h2⟩ := h
 simp [lenAt, lenV, h1, h2.len]
theorem BoxI.kept {w0 W W' : World} {b : Nat} {l : List Iv} (h : BoxI w0 W b l) (hk : W'.heap[b]? = W.heap[b]?) : BoxI w0 W' b l := by
 obtain ⟨a, n, c, h1, h2⟩ := h
 exact ⟨a, n, c, hk.trans h1, h2⟩
theorem ivs_tail {w : World} {blk o k cap : Nat} {s : Iv} {c : List Iv} (h : Ivs w (some ⟨blk, o, none⟩) k cap (s :: c)) :
 Ivs w (if cap = 1 then some ⟨blk, o, none⟩ else some ⟨blk, o + 2, none⟩) (k - 1) (cap - 1) c := by
 have hl : c.length + 1 = k := h.len
 have hr := h.room
 have hm := h.most
 refine ⟨by omega, fun t ht => h.lt t (List.mem_cons_of_mem _ ht), by omega, by omega, ?_, fun hn => ?_⟩
 · intro e; split at e <;> cases e
 · rw [if_neg (by omega)]
   obtain ⟨b, o', e, hc⟩ := h.cells (by omega)
   cases e
   refine ⟨blk, o + 2, rfl, fun i hi => ?_⟩
   have := hc (i + 1) (by omega)
   have e1 : o + (i + 1) * 2 = o + 2 + i * 2 := by omega
   rw [e1] at this
   simpa [nthI] using this
set_option maxRecDepth 20000 in
set_option maxHeartbeats 2000000 in
theorem pieces_seq (n : Nat) (w0 w : World) (ba bb : Nat) (a b : List Iv) (ga : Good a) (gb : Good b) (hb0 : Below w0.heap.size w0 w)
 (hsa : BoxI w0 w ba a) (hsb : BoxI w0 w bb b) (hba : w0.heap.size ≤ ba) (hbb : w0.heap.size ≤ bb) (hne : ba ≠ bb) :
 SeqW n Tryz.prog 199 #[.pointer (some ⟨ba, 0, none⟩), .pointer (some ⟨bb, 0, none⟩)] pcE (fun ps => ∃ y, Chn a b 0 ps y) (fun ps => Chn a b 0 ps 18446744073709551616)
  (fun k => k = ba ∨ k = bb) (fun k => k < w0.heap.size ∨ k = ba ∨ k = bb) w := by
 intro l J Jx W hl hW hJ hJx hY h0
 have hbas : ba < w.heap.size := by obtain ⟨x, k, c, h, _⟩ := hsa; exact (Array.getElem?_eq_some_iff.1 h).1
 have hbbs : bb < w.heap.size := by obtain ⟨x, k, c, h, _⟩ := hsb; exact (Array.getElem?_eq_some_iff.1 h).1
 have Hla := Lib.hid (show Lt64 a from by obtain ⟨x, k, c, _, h⟩ := hsa; exact h.lt)
 have Hlb := Lib.hid (show Lt64 b from by obtain ⟨x, k, c, _, h⟩ := hsb; exact h.lt)
 have Ha := Lib.hid (hsa.kept (hW.block ba hbas))
 have Hb := Lib.hid (hsb.kept (hW.block bb hbbs))
 have H0 := Lib.hid (hb0.trans (hW.mono hb0.size))
 have HJ := Lib.hid hJ; have HJx := Lib.hid hJx; have HY := Lib.hid hY; have Hj0 := Lib.hid h0
 have Hne := Lib.hid hne; have Hba := Lib.hid hba; have Hbb := Lib.hid hbb
 have Hga := Lib.hid ga; have Hgb := Lib.hid gb
 clear hsa hsb hW hb0 hJ hJx hY h0 hne hba hbb hbas hbbs ga gb hl
 refine callsIn_of_wp Tryz.func199 rfl trivial ?_ rfl
 simp only [Tryz.ntmps199, List.size_toArray, List.length_cons, List.length_nil, Nat.reduceAdd, Nat.reduceSub, Array.replicate_succ, Array.replicate_zero, List.push_toArray, List.append_toArray, List.nil_append, List.cons_append]
 gi_wp2
 gi_loopw [4] (fun f wr => ∃ (x : Nat) (pre : List Pc), f = .int .u64 x ∧ x < 18446744073709551616 ∧ Hid (x ∈ allL [a, b] ∧ Chn a b 0 pre x ∧ Below w0.heap.size w0 wr ∧ J pre wr) ∧ Hid (∃ u, u ≤ x ∧ BoxI w0 wr ba (dropL a u)) ∧ Hid (∃ u, u ≤ x ∧ BoxI w0 wr bb (dropL b u)))
  (fun f _ => 18446744073709551616 - (intOf f).toNat)
 case atStart => exact ⟨0, [], rfl, by omega, ⟨by simp [allL], rfl, H0.out, Hj0.out⟩, ⟨0, Nat.le_refl _, by rw [dropL_zero]; exact Ha.out⟩, ⟨0, Nat.le_refl _, by rw [dropL_zero]; exact Hb.out⟩⟩
 case round =>
  obtain ⟨x, pre, rfl, hx, hm, hA, hB⟩ := hrel
  refine wpIn_wide.2 ?_
  go_upto_block 2 with fail
  go_cut [] (fun wr => Below w0.heap.size w0 wr ∧ Hid (J pre wr) ∧ Hid (BoxI w0 wr ba (dropL a x)) ∧ Hid (∃ u, u ≤ x ∧ BoxI w0 wr bb (dropL b u)))
  case first =>
   obtain ⟨wx, rfl⟩ : ∃ wx : World, wx = wr := ⟨_, rfl⟩
   go_wp2_with fail
   go_loopw [] (fun wr => Below w0.heap.size w0 wr ∧ Hid (J pre wr) ∧ Hid (∃ c, dropL c x = dropL a x ∧ BoxI w0 wr ba c) ∧ Hid (∃ u, u ≤ x ∧ BoxI w0 wr bb (dropL b u))) (fun wr => lenAt wr ba)
   case atStart =>
    obtain ⟨u, hu, hA⟩ := hA.out
    exact ⟨hm.out.2.2.1, hm.out.2.2.2, ⟨_, dropL_drop hu, hA⟩, hB⟩
   case round =>
    obtain ⟨hb, hj, hc, hB⟩ := hrel
    obtain ⟨c, hd, ad, k, cap, hbx, hI⟩ := hc.out
    have HB := Lib.hid hb; clear hb hc
    have Hbx := Lib.hid hbx; have HI := Lib.hid hI; have Hd := Lib.hid hd
    have q1 := box_cell hbx
    have q2 := box_frozen hbx
    clear hbx hI hd
    cases c with
    | nil =>
     obtain rfl : k = 0 := by have := HI.out.len; simpa using this.symm
     have Hz := Lib.hid (show BoxI w0 wr ba (dropL a x) from by rw [← Hd.out]; exact ⟨_, _, _, Hbx.out, HI.out⟩)
     go_wp2
     go_meet
     exact ⟨HB.out, hj, Hz, hB⟩
    | cons s c =>
     obtain ⟨blk, o, rfl, hcell⟩ := HI.out.cells (by have := HI.out.len; simp at this; omega)
     obtain ⟨c1, c2⟩ := hcell 0 (by have := HI.out.len; simp at this; omega)
     have hk0 : 0 < k := by have := HI.out.len; simp at this; omega
     have c2 := (HB.out.cell (p := ⟨blk, o + 0 * 2 + 1, none⟩) (cell_lt c2)).trans c2
     clear hcell c1
     obtain ⟨p, q⟩ := s
     simp only [nthI, List.getD_cons_zero, Nat.zero_mul, Nat.add_zero] at c2
     have hkc : k ≤ cap := HI.out.room
     have hk1 : decide ((0 : Int) < (k : Int)) = true := by rw [decide_eq_true_iff]; omega
     have hk2 : decide (0 < k) = true := by rw [decide_eq_true_iff]; omega
     by_cases hq : q < x
     · have hd1 : decide ((q : Int) < (x : Int)) = true := by rw [decide_eq_true_iff]; omega
       have hd2 : decide (q < x) = true := by rw [decide_eq_true_iff]; omega
       have Ht := Lib.hid (ivs_tail HI.out)
       have Hdt := Lib.hid (show dropL c x = dropL a x from by rw [← Hd.out, dropL, if_pos hq])
       clear hq
       go_wp2
       have hk := (Kept.refl (fun k => ¬(k = ba ∨ k = bb)) wr).setCell (a := ⟨ba, 0, none⟩) (fun _ e => e (.inl rfl)) (.slice (if cap = 1 then some ⟨blk, o, none⟩ else some ⟨blk, o + 2, none⟩) (k - 1) (cap - 1))
       have hbn : BoxI w0 (wr.setCell ⟨ba, 0, none⟩ (.slice (if cap = 1 then some ⟨blk, o, none⟩ else some ⟨blk, o + 2, none⟩) (k - 1) (cap - 1))) ba c := ⟨_, _, _, box_set Hbx.out, Ht.out⟩
       go_roundw
       case rel =>
        refine ⟨HB.out.setCell Hba.out _, HJ.out _ _ _ hj.out hk, ⟨c, Hdt.out, hbn⟩, ?_⟩
        obtain ⟨u, hu, hB⟩ := hB.out
        exact ⟨u, hu, hB.kept (Below.heap_setCell _ _ _ _ (fun e => Hne.out e.symm))⟩
       case measure => rw [box_len hbn, box_len ⟨_, _, _, Hbx.out, HI.out⟩]; simp
     · have hd1 : decide ((q : Int) < (x : Int)) = false := by rw [decide_eq_false_iff_not]; omega
       have hd2 : decide (q < x) = false := by rw [decide_eq_false_iff_not]; omega
       have Hz := Lib.hid (show BoxI w0 wr ba (dropL a x) from by rw [← Hd.out, dropL, if_neg hq]; exact ⟨_, _, _, Hbx.out, HI.out⟩)
       clear hq
       go_wp2
       go_meet
       exact ⟨HB.out, hj, Hz, hB⟩
  case rest =>
   obtain ⟨hb, hj, hA, hB⟩ := hcut
   have hm2 := Lib.hid (And.intro hm.out.1 hm.out.2.1)
   clear hm
   go_upto_block 4 with fail
   go_cut [] (fun wr => Below w0.heap.size w0 wr ∧ Hid (J pre wr) ∧ Hid (BoxI w0 wr ba (dropL a x)) ∧ Hid (BoxI w0 wr bb (dropL b x)))
   case first =>
    obtain ⟨wx, rfl⟩ : ∃ wx : World, wx = wc := ⟨_, rfl⟩
    go_wp2_with fail
    go_loopw [] (fun wr => Below w0.heap.size w0 wr ∧ Hid (J pre wr) ∧ Hid (∃ c, dropL c x = dropL b x ∧ BoxI w0 wr bb c) ∧ Hid (BoxI w0 wr ba (dropL a x))) (fun wr => lenAt wr bb)
    case atStart =>
     obtain ⟨u, hu, hB⟩ := hB.out
     exact ⟨hb, hj, ⟨_, dropL_drop hu, hB⟩, hA⟩
    case round =>
     obtain ⟨hb, hj, hc, hA⟩ := hrel
     obtain ⟨c, hd, ad, k, cap, hbx, hI⟩ := hc.out
     have HB := Lib.hid hb; clear hb hc
     have Hbx := Lib.hid hbx; have HI := Lib.hid hI; have Hd := Lib.hid hd
     have q1 := box_cell hbx
     have q2 := box_frozen hbx
     clear hbx hI hd
     cases c with
     | nil =>
      obtain rfl : k = 0 := by have := HI.out.len; simpa using this.symm
      have Hz := Lib.hid (show BoxI w0 wr bb (dropL b x) from by rw [← Hd.out]; exact ⟨_, _, _, Hbx.out, HI.out⟩)
      go_wp2
      go_meet
      exact ⟨HB.out, hj, hA, Hz⟩
     | cons s c =>
      obtain ⟨blk, o, rfl, hcell⟩ := HI.out.cells (by have := HI.out.len; simp at this; omega)
      obtain ⟨c1, c2⟩ := hcell 0 (by have := HI.out.len; simp at this; omega)
      have hk0 : 0 < k := by have := HI.out.len; simp at this; omega
      have c2 := (HB.out.cell (p := ⟨blk, o + 0 * 2 + 1, none⟩) (cell_lt c2)).trans c2
      clear hcell c1
      obtain ⟨p, q⟩ := s
      simp only [nthI, List.getD_cons_zero, Nat.zero_mul, Nat.add_zero] at c2
      have hkc : k ≤ cap := HI.out.room
      have hk1 : decide ((0 : Int) < (k : Int)) = true := by rw [decide_eq_true_iff]; omega
      have hk2 : decide (0 < k) = true := by rw [decide_eq_true_iff]; omega
      by_cases hq : q < x
      · have hd1 : decide ((q : Int) < (x : Int)) = true := by rw [decide_eq_true_iff]; omega
        have hd2 : decide (q < x) = true := by rw [decide_eq_true_iff]; omega
        have Ht := Lib.hid (ivs_tail HI.out)
        have Hdt := Lib.hid (show dropL c x = dropL b x from by rw [← Hd.out, dropL, if_pos hq])
        clear hq
        go_wp2
        have hk := (Kept.refl (fun k => ¬(k = ba ∨ k = bb)) wr).setCell (a := ⟨bb, 0, none⟩) (fun _ e => e (.inr rfl)) (.slice (if cap = 1 then some ⟨blk, o, none⟩ else some ⟨blk, o + 2, none⟩) (k - 1) (cap - 1))
        have hbn : BoxI w0 (wr.setCell ⟨bb, 0, none⟩ (.slice (if cap = 1 then some ⟨blk, o, none⟩ else some ⟨blk, o + 2, none⟩) (k - 1) (cap - 1))) bb c := ⟨_, _, _, box_set Hbx.out, Ht.out⟩
        go_roundw
        case rel =>
         exact ⟨HB.out.setCell Hbb.out _, HJ.out _ _ _ hj.out hk, ⟨c, Hdt.out, hbn⟩, hA.out.kept (Below.heap_setCell _ _ _ _ (fun e => Hne.out e))⟩
        case measure => rw [box_len hbn, box_len ⟨_, _, _, Hbx.out, HI.out⟩]; simp
      · have hd1 : decide ((q : Int) < (x : Int)) = false := by rw [decide_eq_false_iff_not]; omega
        have hd2 : decide (q < x) = false := by rw [decide_eq_false_iff_not]; omega
        have Hz := Lib.hid (show BoxI w0 wr bb (dropL b x) from by rw [← Hd.out, dropL, if_neg hq]; exact ⟨_, _, _, Hbx.out, HI.out⟩)
        clear hq
        go_wp2
        go_meet
        exact ⟨HB.out, hj, hA, Hz⟩
   case rest =>
    obtain ⟨wx, rfl⟩ : ∃ wx : World, wx = wc := ⟨_, rfl⟩
    obtain ⟨hb, hj, hA, hB⟩ := hcut
    go_upto_region 5 with fail
    go_cut [5] (fun v wr => ∃ r, v = .pointer (some ⟨r, 0, none⟩) ∧ wx.heap.size ≤ r ∧ Hid (wr.heap[r]? = some (.cells #[.bool (mem a x), .bool (mem b x)] 166)) ∧ Hid (Below wx.heap.size wx wr))
    case first =>
     have Hma := Lib.hid (headL_mem (x := x) Hga.out)
     have Hmb := Lib.hid (headL_mem (x := x) Hgb.out)
     obtain ⟨aa, ka, ca, ha1, ha2⟩ := hA.out
     obtain ⟨ab, kb, cb, hb1, hb2⟩ := hB.out
     have q1 := box_cell ha1
     have q2 := box_cell hb1
     have hal := (Below.refl wx.heap.size wx).alloc (Nat.le_refl _) (.cells #[.bool false, .bool false] 166)
     have q3 := (hal.cell (cell_lt q1)).trans q1
     have q4 := (hal.cell (cell_lt q2)).trans q2
     clear ha1 hb1 hA hB
     have HIa := Lib.hid ha2; have HIb := Lib.hid hb2
     clear ha2 hb2
     have Hb := Lib.hid hb; clear hb
     generalize dropL a x = A at *
     generalize dropL b x = B at *
     cases A with
     | nil =>
      obtain rfl : ka = 0 := by have := HIa.out.len; simpa using this.symm
      cases B with
      | nil =>
       obtain rfl : kb = 0 := by have := HIb.out.len; simpa using this.symm
       go_region
       all_goals go_wp2
       all_goals go_meet
       all_goals exact ⟨_, rfl, Nat.le_refl _, (by rw [← Hma.out, ← Hmb.out]; exact World.alloc_heap_new wx _), ((Below.refl _ _).alloc (Nat.le_refl _) _).drew⟩
      | cons t B =>
       obtain ⟨blky, oy, rfl, hcelly⟩ := HIb.out.cells (by have := HIb.out.len; simp at this; omega)
       obtain ⟨cy, -⟩ := hcelly 0 (by have := HIb.out.len; simp at this; omega)
       have h0y : 0 < kb := by have := HIb.out.len; simp at this; omega
       have cy := (Hb.out.cell (p := ⟨blky, oy + 0 * 2, none⟩) (cell_lt cy)).trans cy
       clear hcelly
       obtain ⟨py, qy⟩ := t
       simp only [nthI, List.getD_cons_zero, Nat.zero_mul, Nat.add_zero] at cy
       have ry := (hal.cell (cell_lt cy)).trans cy
       have hk1y : decide ((0 : Int) < (kb : Int)) = true := by rw [decide_eq_true_iff]; omega
       have hk2y : decide (0 < kb) = true := by rw [decide_eq_true_iff]; omega
       have hley : (1 : Int) ≤ kb := by omega
       obtain ⟨uy, huy⟩ : ∃ uy, uy = decide (py ≤ x) := ⟨_, rfl⟩
       have hd1y : decide ((py : Int) ≤ (x : Int)) = uy := by rw [huy]; exact decide_eq_decide.2 (by omega)
       have hd2y : decide (py ≤ x) = uy := huy.symm
       have HUy := Lib.hid (show headL ((py, qy) :: B) x = uy from hd2y)
       clear huy
       go_region
       all_goals go_wp2
       all_goals go_meet
       all_goals exact ⟨_, rfl, Nat.le_refl _, (by rw [← Hma.out, ← Hmb.out]; rw [HUy.out]; exact World.alloc_heap_new wx _), ((Below.refl _ _).alloc (Nat.le_refl _) _).drew⟩
     | cons s A =>
      obtain ⟨blkx, ox, rfl, hcellx⟩ := HIa.out.cells (by have := HIa.out.len; simp at this; omega)
      obtain ⟨cx, -⟩ := hcellx 0 (by have := HIa.out.len; simp at this; omega)
      have h0x : 0 < ka := by have := HIa.out.len; simp at this; omega
      have cx := (Hb.out.cell (p := ⟨blkx, ox + 0 * 2, none⟩) (cell_lt cx)).trans cx
      clear hcellx
      obtain ⟨px, qx⟩ := s
      simp only [nthI, List.getD_cons_zero, Nat.zero_mul, Nat.add_zero] at cx
      have rx := (hal.cell (cell_lt cx)).trans cx
      have hk1x : decide ((0 : Int) < (ka : Int)) = true := by rw [decide_eq_true_iff]; omega
      have hk2x : decide (0 < ka) = true := by rw [decide_eq_true_iff]; omega
      have hlex : (1 : Int) ≤ ka := by omega
      obtain ⟨ux, hux⟩ : ∃ ux, ux = decide (px ≤ x) := ⟨_, rfl⟩
      have hd1x : decide ((px : Int) ≤ (x : Int)) = ux := by rw [hux]; exact decide_eq_decide.2 (by omega)
      have hd2x : decide (px ≤ x) = ux := hux.symm
      have HUx := Lib.hid (show headL ((px, qx) :: A) x = ux from hd2x)
      clear hux
      cases B with
      | nil =>
       obtain rfl : kb = 0 := by have := HIb.out.len; simpa using this.symm
       go_region
       all_goals go_wp2
       all_goals go_meet
       all_goals exact ⟨_, rfl, Nat.le_refl _, (by rw [← Hma.out, ← Hmb.out]; rw [HUx.out]; exact World.alloc_heap_new wx _), ((Below.refl _ _).alloc (Nat.le_refl _) _).drew⟩
      | cons t B =>
       obtain ⟨blky, oy, rfl, hcelly⟩ := HIb.out.cells (by have := HIb.out.len; simp at this; omega)
       obtain ⟨cy, -⟩ := hcelly 0 (by have := HIb.out.len; simp at this; omega)
       have h0y : 0 < kb := by have := HIb.out.len; simp at this; omega
       have cy := (Hb.out.cell (p := ⟨blky, oy + 0 * 2, none⟩) (cell_lt cy)).trans cy
       clear hcelly
       obtain ⟨py, qy⟩ := t
       simp only [nthI, List.getD_cons_zero, Nat.zero_mul, Nat.add_zero] at cy
       have ry := (hal.cell (cell_lt cy)).trans cy
       have hk1y : decide ((0 : Int) < (kb : Int)) = true := by rw [decide_eq_true_iff]; omega
       have hk2y : decide (0 < kb) = true := by rw [decide_eq_true_iff]; omega
       have hley : (1 : Int) ≤ kb := by omega
       obtain ⟨uy, huy⟩ : ∃ uy, uy = decide (py ≤ x) := ⟨_, rfl⟩
       have hd1y : decide ((py : Int) ≤ (x : Int)) = uy := by rw [huy]; exact decide_eq_decide.2 (by omega)
       have hd2y : decide (py ≤ x) = uy := huy.symm
       have HUy := Lib.hid (show headL ((py, qy) :: B) x = uy from hd2y)
       clear huy
       go_region
       all_goals go_wp2
       all_goals go_meet
       all_goals exact ⟨_, rfl, Nat.le_refl _, (by rw [← Hma.out, ← Hmb.out]; rw [HUx.out]; rw [HUy.out]; exact World.alloc_heap_new wx _), ((Below.refl _ _).alloc (Nat.le_refl _) _).drew⟩
    case rest =>
     obtain ⟨r, rfl, hr, hst, hbw⟩ := hcut
     have Hj := Lib.hid (HJ.out _ _ _ hj.out ((Kept.refl (fun k => ¬(k = ba ∨ k = bb)) wx).below hbw.out))
     have HA := Lib.hid (hA.out.kept (hbw.out.block ba (Array.getElem?_eq_some_iff.1 hA.out.choose_spec.choose_spec.choose_spec.1).1))
     have HB := Lib.hid (hB.out.kept (hbw.out.block bb (Array.getElem?_eq_some_iff.1 hB.out.choose_spec.choose_spec.choose_spec.1).1))
     have H0c := Lib.hid (hb.trans (hbw.out.mono hb.size))
     have Hst := hst
     clear hj hA hB hb hbw hst hr
     obtain ⟨aa, ka, ca, ha1, ha2⟩ := HA.out
     obtain ⟨ab, kb, cb, hb1, hb2⟩ := HB.out
     have q1 := box_cell ha1
     have q2 := box_cell hb1
     clear ha1 hb1
     have HIa := Lib.hid (ha2.below H0c.out); have HIb := Lib.hid hb2
     clear ha2 hb2
     have Hpc := Lib.hid (chn_piece Hla.out Hlb.out Hga.out Hgb.out hm2.out.2 hx hm2.out.1)
     have HnT := Lib.hid (fun y => (chn_piece Hla.out Hlb.out Hga.out Hgb.out hm2.out.2 hx hm2.out.1).2 y)
     have hw01 : IntKind.u64.wrap ((0 : Int) - 1) = 18446744073709551615 := by rw [IntKind.wrap_u64]; rfl
     have Hna := Lib.hid (fun w => snext_any aa ka ca x (dropL a x) w)
     have Hnb := Lib.hid (fun w => snext_any ab kb cb x (dropL b x) w)
     have HdT := Lib.hid (show ∀ o, nextT (dropL a x) (dropL b x) x = o → pieceT a b x = ((x, match o with | some y => y - 1 | none => 18446744073709551615), (mem a x, mem b x)) from fun o h => by subst h; rfl)
     have HuT := Lib.hid (show nextT (dropL a x) (dropL b x) x = (match nextL (dropL a x) x, nextL (dropL b x) x with | none, v => v | some u, none => some u | some u, some v => if v < u then some v else some u) from rfl)
     generalize nextL (dropL a x) x = na at *
     generalize nextL (dropL b x) x = nb at *
     cases na with
     | none =>
      cases nb with
      | none =>
       have Hsel := Lib.hid (show nextT (dropL a x) (dropL b x) x = none from HuT.out)
       clear HuT
       go_wp2_with fail
       refine (Hna.out _ HIa.out hx).mono ?_
       rintro e w3 ⟨rfl, hb3⟩
       have Hb3 := Lib.hid hb3; clear hb3
       have q2 := (Hb3.out.cell (cell_lt q2)).trans q2
       simp only [nextV, Option.getD, Option.isSome]
       go_wp2_with fail
       refine (Hnb.out _ (HIb.out.below (H0c.out.trans (Hb3.out.mono H0c.out.size))) hx).mono ?_
       rintro e w4 ⟨rfl, hb4⟩
       have Hb4 := Lib.hid (Hb3.out.trans (hb4.mono Hb3.out.size)); clear hb4 Hb3
       simp only [nextV, Option.getD, Option.isSome]
       have z0 : w4.cell? ⟨r, 0, none⟩ = some (.bool (mem a x)) := by
        have h := Hst.out
        refine (Hb4.out.cell (p := ⟨r, 0, none⟩) (Array.getElem?_eq_some_iff.1 h).1).trans ?_
        simp [World.cell?, h]
       have z1 : w4.cell? ⟨r, 1, none⟩ = some (.bool (mem b x)) := by
        have h := Hst.out
        refine (Hb4.out.cell (p := ⟨r, 1, none⟩) (Array.getElem?_eq_some_iff.1 h).1).trans ?_
        simp [World.cell?, h]
       have HJ4 := Lib.hid (HJ.out _ _ _ Hj.out ((Kept.refl (fun k => ¬(k = ba ∨ k = bb)) wc).below Hb4.out))
       have HA4 := Lib.hid (HA.out.kept (Hb4.out.block ba (Array.getElem?_eq_some_iff.1 HA.out.choose_spec.choose_spec.choose_spec.1).1))
       have HB4 := Lib.hid (HB.out.kept (Hb4.out.block bb (Array.getElem?_eq_some_iff.1 HB.out.choose_spec.choose_spec.choose_spec.1).1))
       have H04 := Lib.hid (H0c.out.trans (Hb4.out.mono H0c.out.size))
       clear q1 q2 Hb4
       have Hp := Lib.hid (HdT.out _ Hsel.out)
       have HC := Lib.hid (show Chn a b 0 (pre ++ [((x, 18446744073709551615), (mem a x, mem b x))]) 18446744073709551616 from by have h := Hpc.out.1; rw [Hp.out] at h; exact h)
       obtain ⟨fn, tmps, assign, body, hy, hR⟩ := HY.out pre ((x, 18446744073709551615), (mem a x, mem b x)) w4 ⟨_, HC.out⟩ HJ4.out
       simp only [pcE, ivV] at hy
       try rw [show ((18446744073709551615 : Nat) : Int) = 18446744073709551615 from rfl] at hy
       go_upto_region 13 with fail
       refine (wpIn_wide (n := n)).1 ?_
       gi_wp2
       first | refine hR.mono ?_ | refine ⟨fun h => (by cases h), hR.mono ?_⟩
       rintro e W3 (⟨rfl, hJ3, hk3⟩ | ⟨rfl, hJx3⟩)
       · gi_wp2
         go_wp2
         refine bodyPost_ret (results_none rfl _ _ _) rfl ?_
         exact ⟨⟨_, rfl⟩, .inl ⟨_, HC.out, hJ3⟩⟩
       · gi_wp2
         go_wp2
         refine bodyPost_ret (results_none rfl _ _ _) rfl ?_
         exact ⟨⟨_, rfl⟩, .inr ⟨_, ⟨_, HC.out⟩, hJx3⟩⟩
      | some v =>
       have Hsel := Lib.hid (show nextT (dropL a x) (dropL b x) x = some v from HuT.out)
       clear HuT
       go_wp2_with fail
       refine (Hna.out _ HIa.out hx).mono ?_
       rintro e w3 ⟨rfl, hb3⟩
       have Hb3 := Lib.hid hb3; clear hb3
       have q2 := (Hb3.out.cell (cell_lt q2)).trans q2
       simp only [nextV, Option.getD, Option.isSome]
       go_wp2_with fail
       refine (Hnb.out _ (HIb.out.below (H0c.out.trans (Hb3.out.mono H0c.out.size))) hx).mono ?_
       rintro e w4 ⟨rfl, hb4⟩
       have Hb4 := Lib.hid (Hb3.out.trans (hb4.mono Hb3.out.size)); clear hb4 Hb3
       simp only [nextV, Option.getD, Option.isSome]
       have z0 : w4.cell? ⟨r, 0, none⟩ = some (.bool (mem a x)) := by
        have h := Hst.out
        refine (Hb4.out.cell (p := ⟨r, 0, none⟩) (Array.getElem?_eq_some_iff.1 h).1).trans ?_
        simp [World.cell?, h]
       have z1 : w4.cell? ⟨r, 1, none⟩ = some (.bool (mem b x)) := by
        have h := Hst.out
        refine (Hb4.out.cell (p := ⟨r, 1, none⟩) (Array.getElem?_eq_some_iff.1 h).1).trans ?_
        simp [World.cell?, h]
       have HJ4 := Lib.hid (HJ.out _ _ _ Hj.out ((Kept.refl (fun k => ¬(k = ba ∨ k = bb)) wc).below Hb4.out))
       have HA4 := Lib.hid (HA.out.kept (Hb4.out.block ba (Array.getElem?_eq_some_iff.1 HA.out.choose_spec.choose_spec.choose_spec.1).1))
       have HB4 := Lib.hid (HB.out.kept (Hb4.out.block bb (Array.getElem?_eq_some_iff.1 HB.out.choose_spec.choose_spec.choose_spec.1).1))
       have H04 := Lib.hid (H0c.out.trans (Hb4.out.mono H0c.out.size))
       clear q1 q2 Hb4
       obtain ⟨hy1, hy2, hy3, hy4⟩ := HnT.out v Hsel.out
       have Hp := Lib.hid (HdT.out _ Hsel.out)
       have HC := Lib.hid (show Chn a b 0 (pre ++ [((x, v - 1), (mem a x, mem b x))]) v from by have h := Hpc.out.1; rw [Hp.out] at h; simpa [show v - 1 + 1 = v by omega] using h)
       have hw1 : IntKind.u64.wrap ((v : Int) - 1) = ((v - 1 : Nat) : Int) := by rw [IntKind.wrap_u64]; omega
       obtain ⟨fn, tmps, assign, body, hy, hR⟩ := HY.out pre ((x, v - 1), (mem a x, mem b x)) w4 ⟨_, HC.out⟩ HJ4.out
       simp only [pcE, ivV] at hy
       try rw [show ((18446744073709551615 : Nat) : Int) = 18446744073709551615 from rfl] at hy
       go_upto_region 13 with fail
       refine (wpIn_wide (n := n)).1 ?_
       gi_wp2
       first | refine hR.mono ?_ | refine ⟨fun h => (by cases h), hR.mono ?_⟩
       rintro e W3 (⟨rfl, hJ3, hk3⟩ | ⟨rfl, hJx3⟩)
       · gi_wp2
         go_wp2
         go_roundw
         case rel =>
          have e3 := hk3.toBelow (n := w0.heap.size) (fun k hk => .inl hk) H04.out.size
          exact ⟨v, _, rfl, hy2, ⟨hy4, HC.out, H04.out.trans e3, hJ3⟩, ⟨x, Nat.le_of_lt hy1, HA4.out.kept (hk3.row ba (Array.getElem?_eq_some_iff.1 HA4.out.choose_spec.choose_spec.choose_spec.1).1 (.inr (.inl rfl)))⟩, ⟨x, Nat.le_of_lt hy1, HB4.out.kept (hk3.row bb (Array.getElem?_eq_some_iff.1 HB4.out.choose_spec.choose_spec.choose_spec.1).1 (.inr (.inr rfl)))⟩⟩
         case measure => simp [intOf]; omega
       · gi_wp2
         go_wp2
         refine bodyPost_ret (results_none rfl _ _ _) rfl ?_
         exact ⟨⟨_, rfl⟩, .inr ⟨_, ⟨_, HC.out⟩, hJx3⟩⟩
     | some u =>
      cases nb with
      | none =>
       have Hsel := Lib.hid (show nextT (dropL a x) (dropL b x) x = some u from HuT.out)
       clear HuT
       go_wp2_with fail
       refine (Hna.out _ HIa.out hx).mono ?_
       rintro e w3 ⟨rfl, hb3⟩
       have Hb3 := Lib.hid hb3; clear hb3
       have q2 := (Hb3.out.cell (cell_lt q2)).trans q2
       simp only [nextV, Option.getD, Option.isSome]
       go_wp2_with fail
       refine (Hnb.out _ (HIb.out.below (H0c.out.trans (Hb3.out.mono H0c.out.size))) hx).mono ?_
       rintro e w4 ⟨rfl, hb4⟩
       have Hb4 := Lib.hid (Hb3.out.trans (hb4.mono Hb3.out.size)); clear hb4 Hb3
       simp only [nextV, Option.getD, Option.isSome]
       have z0 : w4.cell? ⟨r, 0, none⟩ = some (.bool (mem a x)) := by
        have h := Hst.out
        refine (Hb4.out.cell (p := ⟨r, 0, none⟩) (Array.getElem?_eq_some_iff.1 h).1).trans ?_
        simp [World.cell?, h]
       have z1 : w4.cell? ⟨r, 1, none⟩ = some (.bool (mem b x)) := by
        have h := Hst.out
        refine (Hb4.out.cell (p := ⟨r, 1, none⟩) (Array.getElem?_eq_some_iff.1 h).1).trans ?_
        simp [World.cell?, h]
       have HJ4 := Lib.hid (HJ.out _ _ _ Hj.out ((Kept.refl (fun k => ¬(k = ba ∨ k = bb)) wc).below Hb4.out))
       have HA4 := Lib.hid (HA.out.kept (Hb4.out.block ba (Array.getElem?_eq_some_iff.1 HA.out.choose_spec.choose_spec.choose_spec.1).1))
       have HB4 := Lib.hid (HB.out.kept (Hb4.out.block bb (Array.getElem?_eq_some_iff.1 HB.out.choose_spec.choose_spec.choose_spec.1).1))
       have H04 := Lib.hid (H0c.out.trans (Hb4.out.mono H0c.out.size))
       clear q1 q2 Hb4
       obtain ⟨hy1, hy2, hy3, hy4⟩ := HnT.out u Hsel.out
       have Hp := Lib.hid (HdT.out _ Hsel.out)
       have HC := Lib.hid (show Chn a b 0 (pre ++ [((x, u - 1), (mem a x, mem b x))]) u from by have h := Hpc.out.1; rw [Hp.out] at h; simpa [show u - 1 + 1 = u by omega] using h)
       have hw1 : IntKind.u64.wrap ((u : Int) - 1) = ((u - 1 : Nat) : Int) := by rw [IntKind.wrap_u64]; omega
       obtain ⟨fn, tmps, assign, body, hy, hR⟩ := HY.out pre ((x, u - 1), (mem a x, mem b x)) w4 ⟨_, HC.out⟩ HJ4.out
       simp only [pcE, ivV] at hy
       try rw [show ((18446744073709551615 : Nat) : Int) = 18446744073709551615 from rfl] at hy
       go_upto_region 13 with fail
       refine (wpIn_wide (n := n)).1 ?_
       gi_wp2
       first | refine hR.mono ?_ | refine ⟨fun h => (by cases h), hR.mono ?_⟩
       rintro e W3 (⟨rfl, hJ3, hk3⟩ | ⟨rfl, hJx3⟩)
       · gi_wp2
         go_wp2
         go_roundw
         case rel =>
          have e3 := hk3.toBelow (n := w0.heap.size) (fun k hk => .inl hk) H04.out.size
          exact ⟨u, _, rfl, hy2, ⟨hy4, HC.out, H04.out.trans e3, hJ3⟩, ⟨x, Nat.le_of_lt hy1, HA4.out.kept (hk3.row ba (Array.getElem?_eq_some_iff.1 HA4.out.choose_spec.choose_spec.choose_spec.1).1 (.inr (.inl rfl)))⟩, ⟨x, Nat.le_of_lt hy1, HB4.out.kept (hk3.row bb (Array.getElem?_eq_some_iff.1 HB4.out.choose_spec.choose_spec.choose_spec.1).1 (.inr (.inr rfl)))⟩⟩
         case measure => simp [intOf]; omega
       · gi_wp2
         go_wp2
         refine bodyPost_ret (results_none rfl _ _ _) rfl ?_
         exact ⟨⟨_, rfl⟩, .inr ⟨_, ⟨_, HC.out⟩, hJx3⟩⟩
      | some v =>
       by_cases hvu : v < u
       · have Hsel := Lib.hid (show nextT (dropL a x) (dropL b x) x = some v from HuT.out.trans (if_pos hvu))
         clear HuT
         have hd1 : decide ((v : Int) < (u : Int)) = true := by rw [decide_eq_true_iff]; omega
         have hd2 : decide (v < u) = true := by rw [decide_eq_true_iff]; omega
         go_wp2_with fail
         refine (Hna.out _ HIa.out hx).mono ?_
         rintro e w3 ⟨rfl, hb3⟩
         have Hb3 := Lib.hid hb3; clear hb3
         have q2 := (Hb3.out.cell (cell_lt q2)).trans q2
         simp only [nextV, Option.getD, Option.isSome]
         go_wp2_with fail
         refine (Hnb.out _ (HIb.out.below (H0c.out.trans (Hb3.out.mono H0c.out.size))) hx).mono ?_
         rintro e w4 ⟨rfl, hb4⟩
         have Hb4 := Lib.hid (Hb3.out.trans (hb4.mono Hb3.out.size)); clear hb4 Hb3
         simp only [nextV, Option.getD, Option.isSome]
         have z0 : w4.cell? ⟨r, 0, none⟩ = some (.bool (mem a x)) := by
          have h := Hst.out
          refine (Hb4.out.cell (p := ⟨r, 0, none⟩) (Array.getElem?_eq_some_iff.1 h).1).trans ?_
          simp [World.cell?, h]
         have z1 : w4.cell? ⟨r, 1, none⟩ = some (.bool (mem b x)) := by
          have h := Hst.out
          refine (Hb4.out.cell (p := ⟨r, 1, none⟩) (Array.getElem?_eq_some_iff.1 h).1).trans ?_
          simp [World.cell?, h]
         have HJ4 := Lib.hid (HJ.out _ _ _ Hj.out ((Kept.refl (fun k => ¬(k = ba ∨ k = bb)) wc).below Hb4.out))
         have HA4 := Lib.hid (HA.out.kept (Hb4.out.block ba (Array.getElem?_eq_some_iff.1 HA.out.choose_spec.choose_spec.choose_spec.1).1))
         have HB4 := Lib.hid (HB.out.kept (Hb4.out.block bb (Array.getElem?_eq_some_iff.1 HB.out.choose_spec.choose_spec.choose_spec.1).1))
         have H04 := Lib.hid (H0c.out.trans (Hb4.out.mono H0c.out.size))
         clear q1 q2 Hb4
         obtain ⟨hy1, hy2, hy3, hy4⟩ := HnT.out v Hsel.out
         have Hp := Lib.hid (HdT.out _ Hsel.out)
         have HC := Lib.hid (show Chn a b 0 (pre ++ [((x, v - 1), (mem a x, mem b x))]) v from by have h := Hpc.out.1; rw [Hp.out] at h; simpa [show v - 1 + 1 = v by omega] using h)
         have hw1 : IntKind.u64.wrap ((v : Int) - 1) = ((v - 1 : Nat) : Int) := by rw [IntKind.wrap_u64]; omega
         obtain ⟨fn, tmps, assign, body, hy, hR⟩ := HY.out pre ((x, v - 1), (mem a x, mem b x)) w4 ⟨_, HC.out⟩ HJ4.out
         simp only [pcE, ivV] at hy
         try rw [show ((18446744073709551615 : Nat) : Int) = 18446744073709551615 from rfl] at hy
         go_upto_region 13 with fail
         refine (wpIn_wide (n := n)).1 ?_
         gi_wp2
         first | refine hR.mono ?_ | refine ⟨fun h => (by cases h), hR.mono ?_⟩
         rintro e W3 (⟨rfl, hJ3, hk3⟩ | ⟨rfl, hJx3⟩)
         · gi_wp2
           go_wp2
           go_roundw
           case rel =>
            have e3 := hk3.toBelow (n := w0.heap.size) (fun k hk => .inl hk) H04.out.size
            exact ⟨v, _, rfl, hy2, ⟨hy4, HC.out, H04.out.trans e3, hJ3⟩, ⟨x, Nat.le_of_lt hy1, HA4.out.kept (hk3.row ba (Array.getElem?_eq_some_iff.1 HA4.out.choose_spec.choose_spec.choose_spec.1).1 (.inr (.inl rfl)))⟩, ⟨x, Nat.le_of_lt hy1, HB4.out.kept (hk3.row bb (Array.getElem?_eq_some_iff.1 HB4.out.choose_spec.choose_spec.choose_spec.1).1 (.inr (.inr rfl)))⟩⟩
           case measure => simp [intOf]; omega
         · gi_wp2
           go_wp2
           refine bodyPost_ret (results_none rfl _ _ _) rfl ?_
           exact ⟨⟨_, rfl⟩, .inr ⟨_, ⟨_, HC.out⟩, hJx3⟩⟩
       · have Hsel := Lib.hid (show nextT (dropL a x) (dropL b x) x = some u from HuT.out.trans (if_neg hvu))
         clear HuT
         have hd1 : decide ((v : Int) < (u : Int)) = false := by rw [decide_eq_false_iff_not]; omega
         have hd2 : decide (v < u) = false := by rw [decide_eq_false_iff_not]; omega
         go_wp2_with fail
         refine (Hna.out _ HIa.out hx).mono ?_
         rintro e w3 ⟨rfl, hb3⟩
         have Hb3 := Lib.hid hb3; clear hb3
         have q2 := (Hb3.out.cell (cell_lt q2)).trans q2
         simp only [nextV, Option.getD, Option.isSome]
         go_wp2_with fail
         refine (Hnb.out _ (HIb.out.below (H0c.out.trans (Hb3.out.mono H0c.out.size))) hx).mono ?_
         rintro e w4 ⟨rfl, hb4⟩
         have Hb4 := Lib.hid (Hb3.out.trans (hb4.mono Hb3.out.size)); clear hb4 Hb3
         simp only [nextV, Option.getD, Option.isSome]
         have z0 : w4.cell? ⟨r, 0, none⟩ = some (.bool (mem a x)) := by
          have h := Hst.out
          refine (Hb4.out.cell (p := ⟨r, 0, none⟩) (Array.getElem?_eq_some_iff.1 h).1).trans ?_
          simp [World.cell?, h]
         have z1 : w4.cell? ⟨r, 1, none⟩ = some (.bool (mem b x)) := by
          have h := Hst.out
          refine (Hb4.out.cell (p := ⟨r, 1, none⟩) (Array.getElem?_eq_some_iff.1 h).1).trans ?_
          simp [World.cell?, h]
         have HJ4 := Lib.hid (HJ.out _ _ _ Hj.out ((Kept.refl (fun k => ¬(k = ba ∨ k = bb)) wc).below Hb4.out))
         have HA4 := Lib.hid (HA.out.kept (Hb4.out.block ba (Array.getElem?_eq_some_iff.1 HA.out.choose_spec.choose_spec.choose_spec.1).1))
         have HB4 := Lib.hid (HB.out.kept (Hb4.out.block bb (Array.getElem?_eq_some_iff.1 HB.out.choose_spec.choose_spec.choose_spec.1).1))
         have H04 := Lib.hid (H0c.out.trans (Hb4.out.mono H0c.out.size))
         clear q1 q2 Hb4
         obtain ⟨hy1, hy2, hy3, hy4⟩ := HnT.out u Hsel.out
         have Hp := Lib.hid (HdT.out _ Hsel.out)
         have HC := Lib.hid (show Chn a b 0 (pre ++ [((x, u - 1), (mem a x, mem b x))]) u from by have h := Hpc.out.1; rw [Hp.out] at h; simpa [show u - 1 + 1 = u by omega] using h)
         have hw1 : IntKind.u64.wrap ((u : Int) - 1) = ((u - 1 : Nat) : Int) := by rw [IntKind.wrap_u64]; omega
         obtain ⟨fn, tmps, assign, body, hy, hR⟩ := HY.out pre ((x, u - 1), (mem a x, mem b x)) w4 ⟨_, HC.out⟩ HJ4.out
         simp only [pcE, ivV] at hy
         try rw [show ((18446744073709551615 : Nat) : Int) = 18446744073709551615 from rfl] at hy
         go_upto_region 13 with fail
         refine (wpIn_wide (n := n)).1 ?_
         gi_wp2
         first | refine hR.mono ?_ | refine ⟨fun h => (by cases h), hR.mono ?_⟩
         rintro e W3 (⟨rfl, hJ3, hk3⟩ | ⟨rfl, hJx3⟩)
         · gi_wp2
           go_wp2
           go_roundw
           case rel =>
            have e3 := hk3.toBelow (n := w0.heap.size) (fun k hk => .inl hk) H04.out.size
            exact ⟨u, _, rfl, hy2, ⟨hy4, HC.out, H04.out.trans e3, hJ3⟩, ⟨x, Nat.le_of_lt hy1, HA4.out.kept (hk3.row ba (Array.getElem?_eq_some_iff.1 HA4.out.choose_spec.choose_spec.choose_spec.1).1 (.inr (.inl rfl)))⟩, ⟨x, Nat.le_of_lt hy1, HB4.out.kept (hk3.row bb (Array.getElem?_eq_some_iff.1 HB4.out.choose_spec.choose_spec.choose_spec.1).1 (.inr (.inr rfl)))⟩⟩
           case measure => simp [intOf]; omega
         · gi_wp2
           go_wp2
           refine bodyPost_ret (results_none rfl _ _ _) rfl ?_
           exact ⟨⟨_, rfl⟩, .inr ⟨_, ⟨_, HC.out⟩, hJx3⟩⟩
end
section
open Go.RowKit
theorem wide_fn (k : FuncId) : Fence.wide.fn k = True := rfl
theorem wpListIn_append_hr {F : Fence} {n : Nat} {P : Program} {w : World} {ops : Array Oper} {rest : List Oper} {o : Oper} {a : Act} {Q : Exit → Act → World → Prop} (hg : o.guard = none) (s x : Operand) (t : TypeId)
 (hop : o.op = Op.call { callee := Callee.builtin Builtin.append, args := #[s, x], argTypes := #[t, t] })
 (v u : Value) (hs : a.eval s = v) (hx : a.eval x = u) (v' : Value) (w' : World) (hrun : (Builtin.append_ #[t, t] o.type #[v, u]).run P w = .ok v' w')
 (h : wpListIn F n P ops Q rest (a.put o.dst v') w') : wpListIn F n P ops Q (o :: rest) a w := by
 refine wpListIn_plain hg fun K hK => ?_
 unfold Oper.wpIn
 refine ⟨?_, ?_⟩
 · simp [Oper.about, hop, resolve, Target.leads, Sem.run_pure]
 · rw [Oper.semAt_plain F _ _ (by rw [hop]; intro c hc; cases hc)]
   simp [execOp, hop, resolve, invoke, builtin, hs, hx, hrun, Result.andThen]
   exact hK _ _ h
theorem relB_one {a b : Iv} (ha : a.1 ≤ a.2) (hb : b.1 ≤ b.2) : relB a b = 1 ↔ a.2 + 1 = b.1 := by
 unfold relB
 repeat' split
 all_goals omega
theorem row_new {w : World} {o : Obj} {k : Nat} (h : k = w.heap.size) : (w.alloc o).heap[k]? = some o := by subst h; exact World.alloc_heap_new w o
theorem row_old {w : World} {o r : Obj} {k : Nat} (h : w.heap[k]? = some r) : (w.alloc o).heap[k]? = some r := (Below.heap_alloc w o k (Array.getElem?_eq_some_iff.1 h).1).trans h
theorem own_same {w w' : World} {base sz n : Nat} {e : TypeId} {v : Value} {xs : List Value} (h : w.ownsRow base e sz v n xs) (hk : ∀ k, base ≤ k → k < w.heap.size → w'.heap[k]? = w.heap[k]?) : w'.ownsRow base e sz v n xs := by
 refine ⟨h.1, ?_⟩
 rcases h.2 with h2 | ⟨g, cap, cur, hv, hg, hh, r⟩
 · exact .inl h2
 · exact .inr ⟨g, cap, cur, hv, hg, (hk g hg (Array.getElem?_eq_some_iff.1 hh).1).trans hh, r⟩
end
end Go.Proofs.YtkkdlgcfcbaibaaGreatDoor
