/- Walks and laws, merged: part 46. -/
import Derived.Deep.RegionHeld3
import Derived.Test.YtkkdlgcfcbaibaaGreatDoorPt44
import Derived.Test.YtkkdlgcfcbaibaaGreatDoorPt45
import Derived.Test.YtkkdlgcfcbaibaaGreatDoorPt43
import Derived.Test.YtkkdlgcfcbaibaaGreatDoorPt41
import Derived.Test.YtkkdlgcfcbaibaaGreatDoorPt22
import Derived.Test.YtkkdlgcfcbaibaaGreatDoorPt42
section
namespace Go.Proofs.YtkkdlgcfcbaibaaGreatDoor
open Go.RowKit
set_option linter.unusedVariables false

theorem step_append_iv_at {w : World} {ops : Array Oper} {o : Oper} {a : Act} {K : Act → World → Prop} {Q : Exit → Act → World → Prop} {E : Prop} (hgd : o.guard = none) (s x : Operand)
    (ho : o.op = .call { callee := .builtin .append, args := #[s, x], argTypes := #[28, 28] }) (hty : o.type = 28)
    (base : Nat) (v : Value) (n : Nat) (xs : List Iv) (hs : a.eval s = v) (hown : w.ownsRow base 73 2 v n (ivC xs)) (A : Option Addr) (c : Nat) (t : Iv) (hx : a.eval x = .slice A 1 c) (hr : Rd w 2 A 1 (ivC [t])) (hb : n + 1 ≤ 1000000) (hbase : base ≤ w.heap.size)
    (h : ∀ v' w', w'.ownsRow base 73 2 v' (n + 1) (ivC (xs ++ [t])) → w.grownBy w' v.ownBlock → (∀ g', v'.ownBlock = some g' → v.ownBlock = some g' ∨ w.heap.size ≤ g') → K (a.put o.dst v') w') :
    if Region.wanted o (yielded ops a.tmps) = true then Oper.wp Tryz.prog o a w K Q else E := by
  obtain ⟨v', w', hrun, h1, h2, h3⟩ := run_append_iv_at base v n xs hown A c t hr hb hbase
  exact step_append_hr hgd s x _ ho _ _ hs hx v' w' (by rw [hty]; exact hrun) (h v' w' h1 h2 h3)

theorem made_frg (n : Nat) : (madeCells (Value.agg #[.slice none 0 0, .slice none 0 0]).cells (n * 2)).toList = frgF n (fun _ => .slice none 0 0) (fun _ => .slice none 0 0) := by
  have hl : (frgF n (fun _ => Value.slice none 0 0) (fun _ => Value.slice none 0 0)).length = n * 2 := by unfold frgF; rw [frgC_length]; simp
  have all : ∀ i, i < n * 2 → (frgF n (fun _ => Value.slice none 0 0) (fun _ => Value.slice none 0 0))[i]? = some (.slice none 0 0) := fun i hi => by
    obtain ⟨e1, e2⟩ := frgF_get (n := n) (k := i / 2) (by omega) (fun _ => Value.slice none 0 0) (fun _ => Value.slice none 0 0)
    rcases (by omega : i = i / 2 * 2 ∨ i = i / 2 * 2 + 1) with h | h
    · rw [h]; exact e1
    · rw [h]; exact e2
  apply List.ext_getElem?
  intro i
  by_cases h : i < n * 2
  · rw [all i h]
    rcases Nat.mod_two_eq_zero_or_one i with e | e <;> simp [madeCells, Value.cells, h, e]
  · rw [List.getElem?_eq_none (l := frgF _ _ _) (by rw [hl]; omega)]
    simp [madeCells, h]

theorem run_make_frg (w : World) (base n : Nat) (hn : n ≤ 1000000) (hb : base ≤ w.heap.size) :
    ∃ w', (Instr.makeSlice 23 (.int .i64 (n : Int)) (.int .i64 (n : Int))).run Tryz.prog w = .ok (.slice (some ⟨w.heap.size, 0, none⟩) n n) w' ∧ w'.ownsRow base 39 2 (.slice (some ⟨w.heap.size, 0, none⟩) n n) n (frgF n (fun _ => .slice none 0 0) (fun _ => .slice none 0 0)) ∧ Below w.heap.size w w' := by
  obtain ⟨i, hi, hz⟩ := Option.map_eq_some_iff.1 Tryz.info_frg
  simp only [Prod.mk.injEq] at hz
  obtain ⟨h1, h2, h3⟩ := hz
  obtain ⟨w', hr, ho, hg⟩ := run_make_full (P := Tryz.prog) w base 23 39 i _ 2 Tryz.underlying23 hi h1 h2 .i64 .i64 n (by rw [h3]; omega) (by unfold maxLen; omega) hb
  rw [made_frg] at ho
  exact ⟨w', hr, ho, (Below.refl _ _).grown hg (Nat.le_refl _) (by intro k h; cases h)⟩

theorem itB_len (l : List Iv) (ix : List Int) (i : Nat) : ∀ d, (itB l ix i d).length ≤ d
  | 0 => by simp [itB]
  | d + 1 => by
    have := itB_len l ix i d
    rw [itB, List.length_append]
    split <;> simp <;> omega
theorem itB_mem {l : List Iv} {ix : List Int} {i : Nat} {s : Iv} : ∀ {d}, d ≤ l.length → s ∈ itB l ix i d → s ∈ l
  | 0, _, h => by cases h
  | d + 1, hd, h => by
    rw [itB] at h
    rcases List.mem_append.1 h with h | h
    · exact itB_mem (by omega) h
    · split at h
      · rw [List.mem_singleton] at h; rw [h]; exact nthI_mem hd
      · cases h

theorem bldM_mid {w2 w W w7 : World} {base g n c j : Nat} {Y : Nat → Value} {L : Nat → List Iv} {X : Nat → Value} (h : BldM w2 w base g n c Y L X) (hb : Below w.heap.size w W) (hj : j < n) (hg : g < w2.heap.size) (hgr : W.grownBy w7 (X j).ownBlock) : w7.cell? ⟨g, j * 2, none⟩ = some (X j) ∧ w7.frozen? ⟨g, j * 2, none⟩ = false := by
  have hW := h.below hb
  have hgw : g < W.heap.size := Nat.lt_of_lt_of_le hg hW.kept.size
  have hrow := hgr.block g hgw (fun e => by have := ((hW.its j hj).lt g e.symm).1; omega)
  exact ⟨(World.cell?_of_block (a := ⟨g, j * 2, none⟩) hrow).trans (hW.cells hj).1, (World.frozen?_of_block (a := ⟨g, j * 2, none⟩) hrow).trans (own_frozen hW.row (j * 2))⟩

/-- The error of Build. -/
def bldErr (vs : List Vec) (l : List Iv) (ix : List Int) : Err := match segErr vs.length l ix with | some e => some e | none => errOf (ckC (bldK vs l ix))
def bldRes (vs : List Vec) (l : List Iv) (ix : List Int) : Kno := if bldErr vs l ix = none then bldK vs l ix else []

theorem segErr_form {N : Nat} {l : List Iv} {ix : List Int} {e : Int × Option Int} (h : segErr N l ix = some e) : ∃ c a : Int, e = (c, some a) := by
  unfold segErr at h
  cases hs : segE N l ix with
  | none => rw [hs] at h; cases h
  | some p => rw [hs] at h; cases h; exact ⟨_, _, rfl⟩
theorem segErr_none {N : Nat} {l : List Iv} {ix : List Int} (h : segErr N l ix = none) : l.length = ix.length ∧ ∀ j, j < ix.length → ∃ i : Nat, i < N ∧ nthZ ix j = (i : Int) := by
  have hl : l.length = ix.length := by
    rcases Nat.decEq l.length ix.length with h' | h'
    · rw [segErr_ne h'] at h; cases h
    · exact h'
  refine ⟨hl, fun j hj => ?_⟩
  rw [segErr_eq hl rfl] at h
  cases h1 : firstS (bldE1 N ix) ix.length with
  | some p => rw [h1, Option.some_or] at h; cases h
  | none =>
    have := firstS_all h1 j hj
    unfold bldE1 at this
    split at this
    · cases this
    · exact ⟨(nthZ ix j).toNat, by omega, by omega⟩

theorem isum_bld {vs : List Vec} {l : List Iv} {ix : List Int} {d : Nat} : isum (bldTo vs l ix d) ≤ d * vs.length := by
  have := isum_le (m := d) (k := bldTo vs l ix d) (fun f hf => by
    unfold bldTo at hf
    obtain ⟨i, hi, rfl⟩ := List.mem_map.1 hf
    exact itB_len l ix i d)
  rwa [bld_len] at this
theorem bld_vec {vs : List Vec} {l : List Iv} {ix : List Int} {d : Nat} {f : Frg} (h : f ∈ bldTo vs l ix d) : f.2 ∈ vs := by
  unfold bldTo at h
  obtain ⟨i, hi, rfl⟩ := List.mem_map.1 h
  exact nthV_mem (List.mem_range.1 hi)

set_option maxRecDepth 100000 in
set_option maxHeartbeats 8000000 in
theorem canBuild_any (av al ai : Option Addr) (nv cv nl cl ni ci : Nat) (vs : List Vec) (l : List Iv) (ix : List Int) (w : World) (hV : Vecs w av nv cv vs) (hI : Ivs w al nl cl l) (hZ : Zs w ai ni ci ix) (hD : Door w) (hCo : Codes w) (hF : ∀ v ∈ vs, VecFits v) (hnv : nv ≤ 200) (hnl : nl ≤ 1000) :
    Calls Tryz.prog 18 #[.slice av nv cv, .slice al nl cl, .slice ai ni ci] w fun x w' => (∃ a n c, x = .returned (.tuple #[.slice a n c, errVal (bldErr vs l ix)]) ∧ Frags w' a n c (bldRes vs l ix)) ∧ Below w.heap.size w w' := by
  have HV := Lib.hid hV; have HI := Lib.hid hI; have HZ := Lib.hid hZ; have HD := Lib.hid hD; have HCo := Lib.hid hCo; have HF := Lib.hid hF
  have Hvl := Lib.hid hV.len
  have Hll := Lib.hid hI.len
  have Hzl := Lib.hid hZ.len
  have hS := Lib.hid (canSegs_any nv al ai nl cl ni ci l ix w hI hZ hD)
  have Hbe := Lib.hid (show bldErr vs l ix = match segErr nv l ix with | some e => some e | none => errOf (ckC (bldK vs l ix)) from by rw [← hV.len]; rfl)
  have Hbr := Lib.hid (show bldRes vs l ix = if bldErr vs l ix = none then bldK vs l ix else [] from rfl)
  clear hV hI hZ hD hCo hF
  cases hs : segErr nv l ix with
  | some e =>
    obtain ⟨c, a, rfl⟩ := segErr_form hs
    rw [hs] at hS Hbe
    simp only [errVal] at hS
    have He := Lib.hid Hbe.out
    rw [He.out, if_neg (by intro h; cases h)] at Hbr
    clear hs Hbe
    go_enter Tryz.func18, Tryz.ntmps18
    go_wp2_with fail
    refine hS.out.mono ?_
    rintro e w1 ⟨rfl, hb1⟩
    have Hb1 := Lib.hid hb1; clear hb1
    go_wp2
    go_ret2
    exact ⟨⟨none, 0, 0, by rw [He.out]; rfl, by rw [Hbr.out]; exact frags_nil _⟩, Hb1.out⟩
  | none =>
    obtain ⟨hlz, hix⟩ := segErr_none hs
    have Hix := Lib.hid hix
    have Hlz := Lib.hid (show nl = ni from by rw [← Hll.out, ← Hzl.out]; exact hlz)
    rw [hs] at hS Hbe
    simp only [errVal] at hS
    clear hs hlz hix
    go_enter Tryz.func18, Tryz.ntmps18
    go_wp2_with fail
    refine hS.out.mono ?_
    rintro e w3 ⟨rfl, hb3⟩
    have Hb3 := Lib.hid hb3; clear hb3
    obtain ⟨w4, hr4, ho4, hb4⟩ := run_make_frg w3 w.heap.size nv (by omega) Hb3.out.size
    obtain ⟨g, hg⟩ : ∃ g, g = w3.heap.size := ⟨_, rfl⟩
    rw [← hg] at hr4 ho4
    have hgw : w.heap.size ≤ g := by rw [hg]; exact Hb3.out.size
    have Hb4 := Lib.hid (Hb3.out.trans (hb4.mono Hb3.out.size))
    have Ho4 := Lib.hid ho4
    clear hb4 ho4 hg Hb3 hS
    go_wp2
    clear hr4
    go_loopw [10, 11, 29] (fun _ _ i wr => ∃ d : Nat, d ≤ nv ∧ i = .int .i64 d ∧ Below w.heap.size w wr ∧ Hid (∃ Y, wr.ownsRow w.heap.size 39 2 (.slice (some ⟨g, 0, none⟩) nv nv) nv (frgF nv (fun _ => .slice none 0 0) Y) ∧ ∀ i, i < nv → EnSl wr 0 (Y i) (if i < d then nthV vs i else []))) (fun _ _ i _ => nv - (intOf i).toNat)
    case atStart => exact ⟨0, by omega, rfl, Hb4.out, ⟨_, Ho4.out, fun i hi => by rw [if_neg (by omega)]; exact enSl_none _ _⟩⟩
    case round =>
      obtain ⟨d, hd, rfl, hb, hy⟩ := hrel
      have Hb := Lib.hid hb; clear hb
      obtain ⟨Y, hoY, hY⟩ := hy.out
      have HoY := Lib.hid hoY
      have HY := Lib.hid hY
      clear hy hoY hY
      by_cases hdn : d < nv
      · obtain ⟨bv, ov, rfl⟩ := HV.out.some (by omega)
        obtain ⟨y, m, c, hq⟩ := HV.out.fix hdn
        obtain ⟨q1, q2⟩ := hq _ Hb.out
        have hvm : nthV vs d ∈ vs := nthV_mem (by rw [Hvl.out]; exact hdn)
        have hfit := HF.out _ hvm
        have hC := Lib.hid (vecClone_any y m c (nthV vs d) wr q2 (by have := hfit.len; have := q2.len; omega) (fun e he => by have := hfit.holes e he; omega))
        have Hvlt := Lib.hid q2.lt
        have h0 : (0 : Int) ≤ d := by omega
        have h04 : (d : Int) < (nv : Int) := by omega
        clear hq q2 hvm hfit
        go_wp2_with fail
        refine hC.out.mono ?_
        rintro e w5 ⟨⟨x, rfl, hox⟩, hb5⟩
        have ho5 := own_below HoY.out hb5
        have z1 := own_frozen ho5 (d * 2 + 1)
        have z2 := ho5.cells (g := g) rfl _ _ (frgF_get hdn (fun _ => .slice none 0 0) Y).2
        rw [add_at, Nat.zero_add] at z2
        obtain ⟨xa, xc, rfl, hE5⟩ := hox.entsT (base' := 0) Hvlt.out
        have hrow : ∃ C fr, w5.heap[g]? = some (.cells C 39 fr) := by
          rcases ho5.2 with ⟨h, _⟩ | ⟨g', cap', cur, h, hg, hr, _⟩
          · cases h
          · cases h; exact ⟨_, _, hr⟩
        obtain ⟨C, fr, hrow⟩ := hrow
        have s0 : Steady 0 isEnT w5 (w5.setCell ⟨g, d * 2 + 1, none⟩ (.slice xa (nthV vs d).length xc)) := Steady.setCell (a := ⟨g, d * 2 + 1, none⟩) hrow (Nat.zero_le _) (by rintro (h | h) <;> cases h)
        have HoF := Lib.hid (show (w5.setCell ⟨g, d * 2 + 1, none⟩ (.slice xa (nthV vs d).length xc)).ownsRow w.heap.size 39 2 (.slice (some ⟨g, 0, none⟩) nv nv) nv (frgF nv (fun _ => .slice none 0 0) (upd Y d (.slice xa (nthV vs d).length xc))) from by
          rw [← frgF_setY hdn]
          exact (ho5.stored (d * 2 + 1) _).1)
        have HYF := Lib.hid (show ∀ i, i < nv → EnSl (w5.setCell ⟨g, d * 2 + 1, none⟩ (.slice xa (nthV vs d).length xc)) 0 (upd Y d (.slice xa (nthV vs d).length xc) i) (if i < d + 1 then nthV vs i else []) from fun i hi => by
          by_cases e : i = d
          · subst e
            rw [upd_at, if_pos (by omega)]
            exact ⟨_, _, _, rfl, hE5.steady s0 (.inl rfl) (.inr rfl)⟩
          · rw [upd_other _ _ e]
            have := ((HY.out i hi).steady (P := fun _ => True) (.of_below hb5) trivial trivial).steady s0 (.inl rfl) (.inr rfl)
            by_cases e2 : i < d
            · rw [if_pos e2] at this; rw [if_pos (by omega)]; exact this
            · rw [if_neg e2] at this; rw [if_neg (by omega)]; exact this)
        have Hb5 := Lib.hid (Hb.out.trans (hb5.mono Hb.out.size))
        generalize (nthV vs d).length = ym at *
        clear hb5 hox hE5 hrow s0 ho5 q1 hC
        go_wp2
        go_roundw
        case rel => exact ⟨d + 1, by omega, by go_num, Hb5.out.setCell hgw _, ⟨_, HoF.out, HYF.out⟩⟩
        case measure => simp [intOf]; omega
      · obtain rfl : d = nv := by omega
        have hrow : ∃ C fr, wr.heap[g]? = some (.cells C 39 fr) := by
          rcases HoY.out.2 with ⟨h, _⟩ | ⟨g', cap', cur, h, hg, hr, _⟩
          · cases h
          · cases h; exact ⟨_, _, hr⟩
        obtain ⟨C, fr, hrow⟩ := hrow
        have hgl : g < wr.heap.size := (Array.getElem?_eq_some_iff.1 hrow).1
        have Hrow := Lib.hid hrow
        have HY2 := Lib.hid (show ∀ i, i < d → EnSl wr 0 (Y i) (nthV vs i) from fun i hi => by
          have := HY.out i hi
          rwa [if_pos hi] at this)
        obtain ⟨w5, hw5⟩ : ∃ w5 : World, w5 = wr := ⟨_, rfl⟩
        rw [← hw5] at Hb HoY Hrow HY2 hgl ⊢
        have Hb5 := Lib.hid Hb.out
        clear hw5 HY hrow Ho4 Hb4 Hb
        go_wp2
        go_loopw [12, 13, 14, 43] (fun _ _ _ i wr => ∃ t : Nat, t ≤ nl ∧ i = .int .i64 t ∧ Hid (∃ X, BldM w5 wr w.heap.size g d d Y (fun i => itB l ix i t) X)) (fun _ _ _ i _ => nl - (intOf i).toNat)
        case atStart => exact ⟨0, by omega, rfl, ⟨_, bldM_start HoY.out⟩⟩
        case round =>
          obtain ⟨t, ht, rfl, hx⟩ := hrel
          obtain ⟨X, hB⟩ := hx.out
          have HB := Lib.hid hB
          have hbw : Below w.heap.size w wr := Hb5.out.trans (hB.kept.toBelow (fun b hb => ⟨by have := Hb5.out.size; omega, by omega⟩) Hb5.out.size)
          have Hb := Lib.hid hbw
          clear hx hB hbw
          by_cases htl : t < nl
          · obtain ⟨bl, ol, rfl⟩ := HI.out.some (by omega)
            obtain ⟨bz, oz, rfl⟩ := HZ.out.some (by have := Hlz.out; omega)
            obtain ⟨j, hjn, hj⟩ := Hix.out t (by rw [Hzl.out, ← Hlz.out]; exact htl)
            obtain ⟨q1, q2⟩ := HI.out.at htl _ Hb.out
            have htn : t < ni := by rw [← Hlz.out]; exact htl
            have z1 := HZ.out.at htn _ Hb.out
            rw [hj] at z1
            have hal : Below wr.heap.size wr (wr.alloc (.cells #[.int .u64 ((nthI l t).1 : Nat), .int .u64 ((nthI l t).2 : Nat)] 73)) := (Below.refl _ _).alloc (Nat.le_refl _) _
            have HX := Lib.hid (box2 wr (.int .u64 ((nthI l t).1 : Nat)) (.int .u64 ((nthI l t).2 : Nat)) 73)
            have HBa := Lib.hid (HB.out.below hal)
            have Hba := Lib.hid (Hb.out.trans (hal.mono Hb.out.size))
            have hz1 := (hal.cell (p := ⟨bz, oz + t, none⟩) (cell_lt z1)).trans z1
            have Hst1 := Lib.hid (show itB l ix j (t + 1) = itB l ix j t ++ [nthI l t] from by rw [itB, hj, if_pos rfl])
            have Hst2 := Lib.hid (show ∀ i, i ≠ j → itB l ix i (t + 1) = itB l ix i t from fun i hi => by rw [itB, hj, if_neg (by omega), List.append_nil])
            have Hil := Lib.hid (itB_len l ix j t)
            have h0 : (0 : Int) ≤ t := by omega
            have h04 : (t : Int) < (nl : Int) := by omega
            have h05 : (t : Int) < (ni : Int) := by have := Hlz.out; omega
            have h0j : (0 : Int) ≤ j := by omega
            have h04j : (j : Int) < (d : Int) := by omega
            generalize nthI l t = s at *
            obtain ⟨sx, sy⟩ := s
            simp only at q1 q2 HX HBa Hba hz1 Hst1
            clear hal
            go_wp2_with fail
            generalize wr.alloc (.cells #[.int .u64 sx, .int .u64 sy] 73) = wA at *
            obtain ⟨x1, x2⟩ := HX.out _ (Below.refl _ _)
            obtain ⟨y1, -⟩ := HBa.out.cells hjn
            have y2 := own_frozen HBa.out.row (j * 2)
            have HXo := Lib.hid (HBa.out.its j hjn)
            have hz5 : w5.heap.size ≤ wA.heap.size := HBa.out.kept.size
            have hgA : g < wA.heap.size := Nat.lt_of_lt_of_le hgl hz5
            have y3 : ∀ o, (wA.alloc o).cell? ⟨g, j * 2, none⟩ = some (X j) := fun o => (World.cell?_alloc_lt _ _ ⟨g, j * 2, none⟩ hgA).trans y1
            clear q1 q2 z1 hz1
            go_region_law (refine step_append_iv_at rfl (.tmp 58) (.tmp 60) rfl rfl w5.heap.size _ _ (itB l ix j t) rfl (own_below HXo.out (by first | exact (Below.refl _ _).alloc (Nat.le_refl _) _ | exact ((Below.refl _ _).drew).alloc (by simp) _ | exact ((Below.refl _ _).alloc (Nat.le_refl _) _).drew | exact (below_drewN' (Below.refl _ _) _).alloc (by simp) _)) _ _ (sx, sy) rfl (rd_block (heap_at_new _ _ _ (by simp)) rfl rfl) (by have := Hil.out; omega) (by first | omega | (simp; omega)) ?_; intro v' w7 ho7 hg7 hv7; obtain ⟨gv', cv', rfl, -⟩ := own_form ho7 (Nat.succ_pos _); obtain ⟨z0, z1⟩ := bldM_mid HBa.out (by first | exact (Below.refl _ _).alloc (Nat.le_refl _) _ | exact ((Below.refl _ _).drew).alloc (by simp) _ | exact ((Below.refl _ _).alloc (Nat.le_refl _) _).drew | exact (below_drewN' (Below.refl _ _) _).alloc (by simp) _) hjn hgl hg7)
            all_goals go_wp2
            all_goals
              go_roundw
              case rel => exact ⟨t + 1, by omega, by go_num, ⟨_, (HBa.out.below (by first | exact (Below.refl _ _).alloc (Nat.le_refl _) _ | exact ((Below.refl _ _).drew).alloc (by simp) _ | exact ((Below.refl _ _).alloc (Nat.le_refl _) _).drew | exact (below_drewN' (Below.refl _ _) _).alloc (by simp) _)).step (l := itB l ix j t ++ [(sx, sy)]) hjn hgl (by rw [List.length_append]; exact ho7) hg7 hv7 Hst1.out Hst2.out⟩⟩
              case measure => simp [intOf]; omega
          · obtain rfl : t = nl := by omega
            have HFr := Lib.hid (HB.out.frags (ib := 0) hgw (Nat.zero_le _) (k := bldK vs l ix) (by unfold bldK; rw [bld_len]; exact Hvl.out) (fun i hi => by
              unfold bldK
              rw [bld_at (by rw [Hvl.out]; exact hi), Hll.out]) (fun i hi s hs => HI.out.lt s (itB_mem (by rw [Hll.out]; exact Nat.le_refl _) hs)) (fun i hi => by
              unfold bldK
              rw [bld_at (by rw [Hvl.out]; exact hi)]
              exact HY2.out i hi) Hrow.out)
            have hC := Lib.hid (canCheck_any _ _ _ _ wr HFr.out (HD.out.below (Nat.le_refl _) Hb.out) (HCo.out.below Hb.out) (fun f hf => HF.out _ (bld_vec hf)) (by
              have h1 := isum_bld (vs := vs) (l := l) (ix := ix) (d := l.length)
              rw [Hll.out, Hvl.out] at h1
              have h2 : t * d ≤ 1000 * 200 := Nat.mul_le_mul hnl hnv
              unfold bldK
              rw [Hll.out]
              omega))
            cases hc : ckC (bldK vs l ix) with
            | some p =>
              obtain ⟨cd, i⟩ := p
              rw [hc] at hC Hbe
              simp only [errOf, errVal] at hC
              have He := Lib.hid (show bldErr vs l ix = some ((cd : Int), some (i : Int)) from Hbe.out)
              rw [He.out, if_neg (by intro h; cases h)] at Hbr
              clear hc Hbe
              go_wp2_with fail
              refine hC.out.mono ?_
              rintro e w6 ⟨rfl, hb6⟩
              have Hb6 := Lib.hid (Hb.out.trans (hb6.mono Hb.out.size)); clear hb6
              go_wp2
              go_ret2
              exact ⟨⟨none, 0, 0, by rw [He.out]; rfl, by rw [Hbr.out]; exact frags_nil _⟩, Hb6.out⟩
            | none =>
              rw [hc] at hC Hbe
              simp only [errOf, errVal] at hC
              have He := Lib.hid (show bldErr vs l ix = none from Hbe.out)
              rw [He.out, if_pos rfl] at Hbr
              clear hc Hbe
              go_wp2_with fail
              refine hC.out.mono ?_
              rintro e w6 ⟨rfl, hb6⟩
              have Hb6 := Lib.hid (Hb.out.trans (hb6.mono Hb.out.size))
              have HF6 := Lib.hid (HFr.out.below hb6)
              clear hb6
              go_wp2
              go_ret2
              exact ⟨⟨_, _, _, by rw [He.out]; rfl, by rw [Hbr.out]; exact HF6.out⟩, Hb6.out⟩

end Go.Proofs.YtkkdlgcfcbaibaaGreatDoor
end

section
namespace Go.Proofs.YtkkdlgcfcbaibaaGreatDoor
open Go.RowKit
set_option linter.unusedVariables false

end Go.Proofs.YtkkdlgcfcbaibaaGreatDoor
end

section
namespace Go.Proofs.YtkkdlgcfcbaibaaGreatDoor
set_option linter.unusedVariables false

end Go.Proofs.YtkkdlgcfcbaibaaGreatDoor
end

section
namespace Go.Proofs.YtkkdlgcfcbaibaaGreatDoor
open Go.RowKit
set_option linter.unusedVariables false

theorem same_refl {a d : Option Addr} {n c n' c' : Nat} {v : Kno} {w : World} (hE : Frags w a n c v) (hF : Frags w d n' c' v) :
    Calls Tryz.prog 19 #[.slice a n c, .slice d n' c'] w fun x w' => x = .returned (.bool true) ∧ Below w.heap.size w w' := by
  have h := refSame11_any a d n c n' c' v v w hE hF
  rwa [show decide (v = v) = true from decide_eq_true rfl] at h

end Go.Proofs.YtkkdlgcfcbaibaaGreatDoor
end
