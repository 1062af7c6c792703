/- Walks and laws, merged: part 42. -/
import Derived.Test.YtkkdlgcfcbaibaaGreatDoorPt41
import Derived.Test.YtkkdlgcfcbaibaaGreatDoorPt13
import Derived.Test.YtkkdlgcfcbaibaaGreatDoorPt40
import Derived.Test.YtkkdlgcfcbaibaaGreatDoorPt22
import Derived.Test.YtkkdlgcfcbaibaaGreatDoorPt39
import Derived.Test.YtkkdlgcfcbaibaaGreatDoorPt21
import Derived.Test.YtkkdlgcfcbaibaaGreatDoorPt29
import Derived.Test.YtkkdlgcfcbaibaaGreatDoorPt18
import Derived.Test.YtkkdlgcfcbaibaaGreatDoorPt20
import Derived.Test.YtkkdlgcfcbaibaaGreatDoorPt24
import Derived.Test.YtkkdlgcfcbaibaaGreatDoorPt36
section
namespace Go.Proofs.YtkkdlgcfcbaibaaGreatDoor
open Go.RowKit
attribute [local go_sem] run_store_fn
set_option linter.unusedVariables false

/-- The laid row of the rules' codes. -/
def Codes (w : World) : Prop := ∀ n, n < 4 → w.cell? ⟨0, n, none⟩ = some (.int .i64 (codeR n))
theorem Codes.below {w w' : World} (h : Codes w) (hb : Below w.heap.size w w') : Codes w' := fun n hn =>
  (hb.cell (p := ⟨0, n, none⟩) (cell_lt (h n hn))).trans (h n hn)

theorem codeR_nz (n : Nat) : codeR n ≠ 0 := by
  match n with
  | 0 => decide
  | 1 => decide
  | 2 => decide
  | n + 3 => exact show (3 : Nat) ≠ 0 by decide

/-- Element k of an array of structs of one cell, as a value. -/
theorem wpList_index_st {P : Program} {w : World} {ops : Array Oper} {rest : List Oper} {o : Oper} {a : Act} {Q : Exit → Act → World → Prop} (ty : TypeId) (x ix : Operand)
    (ho : o.op = .index ty x ix) (hg : o.guard = none) (cs : Array Value) (k len : Nat) (e : TypeId) (fs) (v : Value)
    (hx : a.eval x = .agg cs) (hix : a.eval ix = .int .i64 (k : Int)) (hu : P.underlying ty = some (.array len e)) (hk : k < len) (he : P.underlying e = some (.struct fs)) (hi : (P.info? e).map (·.size) = some 1)
    (hv : cs[k]? = some v) (h : wpList P ops Q rest (a.put o.dst (.agg #[v])) w) : wpList P ops Q (o :: rest) a w := by
  refine wpList_plain hg fun K hK => ?_
  have hex : cs.extract k (k + 1) = #[v] := by
    obtain ⟨h1, h2⟩ := Array.getElem?_eq_some_iff.1 hv
    apply Array.ext_getElem?
    intro i
    rw [Array.getElem?_extract]
    cases i with
    | zero => simp [hv]; omega
    | succ i => simp; omega
  cases hq : P.info? e with
  | none => simp [hq] at hi
  | some i =>
    have hsz : i.size = 1 := by simpa [hq] using hi
    unfold Oper.wp execOp
    simp only [ho, hx, hix, Instr.index, asIntOf, Sem.run_bind, Sem.run_pure, Result.andThen_ok, run_underlying hu]
    have hk' : 0 ≤ (k : Int) ∧ (k : Int) < (len : Int) := ⟨by omega, by omega⟩
    simp [Sem.run_bind, part, isAgg, sizeOf, typeInfo, run_underlying he, hq, hsz, hk', hex]
    exact hK _ _ h

theorem sizeRule : (Tryz.prog.info? 117).map (·.size) = some 1 := by kernel_rfl

set_option maxRecDepth 20000 in
set_option maxHeartbeats 8000000 in
theorem canCheck_any (a : Option Addr) (n cap : Nat) (k : Kno) (w : World) (hE : Frags w a n cap k) (hD : Door w) (hCo : Codes w) (hv : ∀ f ∈ k, VecFits f.2) (hI : 4 * isum k + 1 ≤ 900000) :
    Calls Tryz.prog 38 #[.slice a n cap] w fun x w' => x = .returned (errVal (errOf (ckC k))) ∧ Below w.heap.size w w' := by
  have HE := Lib.hid hE; have HD := Lib.hid hD; have HCo := Lib.hid hCo
  have Hv := Lib.hid hv; have HI := Lib.hid hI
  have Hl := Lib.hid hE.len
  have hm : n ≤ 9223372036854775807 := Nat.le_trans hE.room hE.most
  have Hlt := Lib.hid (fun f (hf : f ∈ k) => (hE.all f hf).1)
  have Hck := Lib.hid (show ckC k = match ckF k with | some x => some x | none => firstS (ckWr k) k.length from rfl)
  have hC := Lib.hid (scoCheck_any a n cap k w hE hD)
  have Hs := Lib.hid (fun f (hf : f ∈ k) e (he : e ∈ f.2) => show e.2.2.length ≤ 1000000 by have := (hv f hf).holes e he; omega)
  cases h : ckF k with
  | some x =>
    obtain ⟨cd, ci⟩ := x
    rw [h] at hC Hck
    simp only [errOf, errVal] at hC Hck
    clear hE hD hCo hv hI h
    go_enter Tryz.func38, Tryz.ntmps38
    go_wp2_with fail
    refine hC.out.mono ?_
    rintro e w1 ⟨rfl, hb1⟩
    have Hb1 := Lib.hid hb1; clear hb1
    go_wp2
    go_ret
    exact ⟨by rw [Hck.out]; rfl, Hb1.out⟩
  | none =>
    rw [h] at hC Hck
    simp only [errOf, errVal] at hC Hck
    have HG := Lib.hid (fun f hf => ((ckF_none.1 h) f hf).1)
    clear hE hD hCo hv hI h
    go_enter Tryz.func38, Tryz.ntmps38
    go_wp2_with fail
    refine hC.out.mono ?_
    rintro e w1 ⟨rfl, hb1⟩
    have Hb1 := Lib.hid hb1; clear hb1
    go_wp2
    go_loopw [4, 5, 6, 7, 8, 16] (fun s _ _ _ _ i wr => ∃ (d : Nat) (b : Option Addr) (bn bc : Nat), d ≤ n ∧ i = .int .i64 d ∧ s = .slice b bn bc ∧ Below w.heap.size w wr ∧ Hid (Ivs wr b bn bc (befK k d)) ∧ Hid (∀ j, j < d → ckWr k j = none)) (fun _ _ _ _ _ i _ => n - (intOf i).toNat)
    case atStart => exact ⟨0, none, 0, 0, by omega, rfl, rfl, Hb1.out, ivs_nil _, fun j h => by omega⟩
    case round =>
      obtain ⟨d, b, bn, bc, hd, rfl, rfl, hb, hB, ht⟩ := hrel
      have Hb := Lib.hid hb; clear hb
      by_cases hdn : d < n
      · have hdk : d < k.length := by rw [Hl.out]; exact hdn
        have HEr := Lib.hid (HE.out.below Hb.out)
        obtain ⟨bb, oo, rfl⟩ := HEr.out.some (by omega)
        obtain ⟨x, m, c, y, m', c', hq⟩ := HEr.out.fix hdn
        have Hq := Lib.hid hq
        have Hat := Lib.hid (show ckWr k d = if wrongK k d = 0 then none else some (wrongK k d, d) from rfl)
        have hal : Below wr.heap.size wr (wr.alloc (.cells #[.slice x m c, .slice y m' c'] 39)) := (Below.refl _ _).alloc (Nat.le_refl _) _
        have HX := Lib.hid (box2 wr (.slice x m c) (.slice y m' c') 39)
        have Hal := Lib.hid hal
        have h0 : (0 : Int) ≤ d := by omega
        have h04 : (d : Int) < (n : Int) := by omega
        obtain ⟨q1, -, q2, -⟩ := hq _ (Below.refl _ _)
        have HBk := Lib.hid (befK_ok Hlt.out d)
        have HWb := Lib.hid (wrongK_brk Hlt.out hdk)
        have HAll := Lib.hid (fun (q : Nat) (z : Bool) (hz : brk k d (befK k d) q = z) (w' : World) (hx : Below wr.heap.size wr w') =>
          show Calls Tryz.prog (ruleF q) #[.slice (some ⟨bb, oo, none⟩) n cap, .int .i64 d, .slice b bn bc] w' fun x w'' => x = .returned (.bool z) ∧ Below w'.heap.size w' w'' from
            hz ▸ rule_any q (some ⟨bb, oo, none⟩) b n cap d bn bc k (befK k d) w' (HEr.out.below hx) hdn (hB.below hx) HBk.out.1 HG.out (HD.out.below (Nat.le_refl _) (Hb.out.trans (hx.mono Hb.out.size))) Hs.out Hv.out)
        have HCd := Lib.hid (fun w' (hx : Below wr.heap.size wr w') => (HCo.out.below (Hb.out.trans (hx.mono Hb.out.size))))
        have HUn := Lib.hid (fun w' (hx : Below wr.heap.size wr w') => union_any b x bn bc m c (befK k d) (nthF k d).1 w' (hB.below hx) ((Hq.out _ hx).2.1) HBk.out.1 (HG.out _ (nthF_mem hdk)) (by
          have h1 := HBk.out.2.2.2; have h2 := isum_mem (nthF_mem hdk); have h3 := HI.out; omega))
        have HBl := Lib.hid ((befK_ok Hlt.out (d + 1)).2.1)
        have HBs := Lib.hid (befK_succ hdk)
        have HB := Lib.hid hB
        clear hq hal hB
        go_wp2_with fail
        refine (rules_any _).mono ?_
        rintro e w2 ⟨rfl, hb2⟩
        have Hb2 := Lib.hid hb2
        have Hw2 := Lib.hid (Hal.out.trans (hb2.mono Hal.out.size))
        clear hb2 q1 q2
        unfold rulesV ruleV
        go_wp2
        go_loopw [7, 8, 22] (fun _ _ i wq => ∃ q : Nat, q ≤ 4 ∧ i = .int .i64 q ∧ Below w2.heap.size w2 wq ∧ Hid (∀ j, j < q → brk k d (befK k d) j = false)) (fun _ _ i _ => 4 - (intOf i).toNat)
        case atStart => exact ⟨0, by omega, rfl, Below.refl _ _, fun j h => by omega⟩
        case round =>
          obtain ⟨q, hq4, rfl, hbq, htq⟩ := hrel
          have Hbq := Lib.hid hbq
          have Hwq := Lib.hid (Hw2.out.trans (hbq.mono Hw2.out.size))
          clear hbq
          by_cases hq3 : q < 4
          · rcases (by omega : q = 0 ∨ q = 1 ∨ q = 2 ∨ q = 3) with rfl | rfl | rfl | rfl
            · cases hz : brk k d (befK k d) 0 with
              | true =>
                have hC := Lib.hid (HAll.out 0 true hz)
                have HA := Lib.hid (fun o => Hwq.out.alloc (o := o) Hwq.out.size)
                have Hwk := Lib.hid (HWb.out.1 0 (by omega) htq.out hz)
                have Hr := Lib.hid (firstS_some hdk ht (Hat.out.trans (by rw [Hwk.out, if_neg (codeR_nz 0)])))
                clear hz hq3 hq4
                go_wp2_with (refine wpList_index_st _ _ _ rfl rfl _ 0 4 117 _ _ rfl rfl Tryz.underlying118 (by omega) Tryz.underlying117 sizeRule rfl ?_)
                refine (hC.out _ (HA.out _)).mono ?_
                rintro e w3 ⟨rfl, hb3⟩
                have Hb3 := Lib.hid ((HA.out _).trans (hb3.mono (HA.out _).size))
                clear hb3
                have hc := HCd.out _ Hb3.out 0 (by omega)
                go_wp2_with fail
                refine (new_any (codeR 0) d _).mono ?_
                rintro e w4 ⟨rfl, rfl⟩
                go_wp2
                go_ret
                exact ⟨by rw [Hck.out, Hr.out]; show _ = Ending.returned (errVal (some ((codeR 0 : Int), some (d : Int)))); rw [← errNew_nz d (codeR_nz 0)]; rfl, Hb.out.trans (Hb3.out.mono Hb.out.size)⟩
              | false =>
                have hC := Lib.hid (HAll.out 0 false hz)
                have HA := Lib.hid (fun o => Hwq.out.alloc (o := o) Hwq.out.size)
                have HA2 := Lib.hid (fun o => Hbq.out.alloc (o := o) Hbq.out.size)
                have Ht2 := Lib.hid (fun j (hj : j < 1) => show brk k d (befK k d) j = false from by
                  rcases Nat.lt_or_ge j 0 with h | h
                  · exact htq.out j h
                  · rw [show j = 0 by omega]; exact hz)
                clear hz hq3 hq4
                go_wp2_with (refine wpList_index_st _ _ _ rfl rfl _ 0 4 117 _ _ rfl rfl Tryz.underlying118 (by omega) Tryz.underlying117 sizeRule rfl ?_)
                refine (hC.out _ (HA.out _)).mono ?_
                rintro e w3 ⟨rfl, hb3⟩
                have Hb3 := Lib.hid ((HA2.out _).trans (hb3.mono (HA2.out _).size))
                clear hb3
                go_wp2
                go_roundw
                case rel => exact ⟨1, by omega, by go_num, Hb3.out, Ht2.out⟩
                case measure => simp [intOf]
            · cases hz : brk k d (befK k d) 1 with
              | true =>
                have hC := Lib.hid (HAll.out 1 true hz)
                have HA := Lib.hid (fun o => Hwq.out.alloc (o := o) Hwq.out.size)
                have Hwk := Lib.hid (HWb.out.1 1 (by omega) htq.out hz)
                have Hr := Lib.hid (firstS_some hdk ht (Hat.out.trans (by rw [Hwk.out, if_neg (codeR_nz 1)])))
                clear hz hq3 hq4
                go_wp2_with (refine wpList_index_st _ _ _ rfl rfl _ 1 4 117 _ _ rfl rfl Tryz.underlying118 (by omega) Tryz.underlying117 sizeRule rfl ?_)
                refine (hC.out _ (HA.out _)).mono ?_
                rintro e w3 ⟨rfl, hb3⟩
                have Hb3 := Lib.hid ((HA.out _).trans (hb3.mono (HA.out _).size))
                clear hb3
                have hc := HCd.out _ Hb3.out 1 (by omega)
                go_wp2_with fail
                refine (new_any (codeR 1) d _).mono ?_
                rintro e w4 ⟨rfl, rfl⟩
                go_wp2
                go_ret
                exact ⟨by rw [Hck.out, Hr.out]; show _ = Ending.returned (errVal (some ((codeR 1 : Int), some (d : Int)))); rw [← errNew_nz d (codeR_nz 1)]; rfl, Hb.out.trans (Hb3.out.mono Hb.out.size)⟩
              | false =>
                have hC := Lib.hid (HAll.out 1 false hz)
                have HA := Lib.hid (fun o => Hwq.out.alloc (o := o) Hwq.out.size)
                have HA2 := Lib.hid (fun o => Hbq.out.alloc (o := o) Hbq.out.size)
                have Ht2 := Lib.hid (fun j (hj : j < 2) => show brk k d (befK k d) j = false from by
                  rcases Nat.lt_or_ge j 1 with h | h
                  · exact htq.out j h
                  · rw [show j = 1 by omega]; exact hz)
                clear hz hq3 hq4
                go_wp2_with (refine wpList_index_st _ _ _ rfl rfl _ 1 4 117 _ _ rfl rfl Tryz.underlying118 (by omega) Tryz.underlying117 sizeRule rfl ?_)
                refine (hC.out _ (HA.out _)).mono ?_
                rintro e w3 ⟨rfl, hb3⟩
                have Hb3 := Lib.hid ((HA2.out _).trans (hb3.mono (HA2.out _).size))
                clear hb3
                go_wp2
                go_roundw
                case rel => exact ⟨2, by omega, by go_num, Hb3.out, Ht2.out⟩
                case measure => simp [intOf]
            · cases hz : brk k d (befK k d) 2 with
              | true =>
                have hC := Lib.hid (HAll.out 2 true hz)
                have HA := Lib.hid (fun o => Hwq.out.alloc (o := o) Hwq.out.size)
                have Hwk := Lib.hid (HWb.out.1 2 (by omega) htq.out hz)
                have Hr := Lib.hid (firstS_some hdk ht (Hat.out.trans (by rw [Hwk.out, if_neg (codeR_nz 2)])))
                clear hz hq3 hq4
                go_wp2_with (refine wpList_index_st _ _ _ rfl rfl _ 2 4 117 _ _ rfl rfl Tryz.underlying118 (by omega) Tryz.underlying117 sizeRule rfl ?_)
                refine (hC.out _ (HA.out _)).mono ?_
                rintro e w3 ⟨rfl, hb3⟩
                have Hb3 := Lib.hid ((HA.out _).trans (hb3.mono (HA.out _).size))
                clear hb3
                have hc := HCd.out _ Hb3.out 2 (by omega)
                go_wp2_with fail
                refine (new_any (codeR 2) d _).mono ?_
                rintro e w4 ⟨rfl, rfl⟩
                go_wp2
                go_ret
                exact ⟨by rw [Hck.out, Hr.out]; show _ = Ending.returned (errVal (some ((codeR 2 : Int), some (d : Int)))); rw [← errNew_nz d (codeR_nz 2)]; rfl, Hb.out.trans (Hb3.out.mono Hb.out.size)⟩
              | false =>
                have hC := Lib.hid (HAll.out 2 false hz)
                have HA := Lib.hid (fun o => Hwq.out.alloc (o := o) Hwq.out.size)
                have HA2 := Lib.hid (fun o => Hbq.out.alloc (o := o) Hbq.out.size)
                have Ht2 := Lib.hid (fun j (hj : j < 3) => show brk k d (befK k d) j = false from by
                  rcases Nat.lt_or_ge j 2 with h | h
                  · exact htq.out j h
                  · rw [show j = 2 by omega]; exact hz)
                clear hz hq3 hq4
                go_wp2_with (refine wpList_index_st _ _ _ rfl rfl _ 2 4 117 _ _ rfl rfl Tryz.underlying118 (by omega) Tryz.underlying117 sizeRule rfl ?_)
                refine (hC.out _ (HA.out _)).mono ?_
                rintro e w3 ⟨rfl, hb3⟩
                have Hb3 := Lib.hid ((HA2.out _).trans (hb3.mono (HA2.out _).size))
                clear hb3
                go_wp2
                go_roundw
                case rel => exact ⟨3, by omega, by go_num, Hb3.out, Ht2.out⟩
                case measure => simp [intOf]
            · cases hz : brk k d (befK k d) 3 with
              | true =>
                have hC := Lib.hid (HAll.out 3 true hz)
                have HA := Lib.hid (fun o => Hwq.out.alloc (o := o) Hwq.out.size)
                have Hwk := Lib.hid (HWb.out.1 3 (by omega) htq.out hz)
                have Hr := Lib.hid (firstS_some hdk ht (Hat.out.trans (by rw [Hwk.out, if_neg (codeR_nz 3)])))
                clear hz hq3 hq4
                go_wp2_with (refine wpList_index_st _ _ _ rfl rfl _ 3 4 117 _ _ rfl rfl Tryz.underlying118 (by omega) Tryz.underlying117 sizeRule rfl ?_)
                refine (hC.out _ (HA.out _)).mono ?_
                rintro e w3 ⟨rfl, hb3⟩
                have Hb3 := Lib.hid ((HA.out _).trans (hb3.mono (HA.out _).size))
                clear hb3
                have hc := HCd.out _ Hb3.out 3 (by omega)
                go_wp2_with fail
                refine (new_any (codeR 3) d _).mono ?_
                rintro e w4 ⟨rfl, rfl⟩
                go_wp2
                go_ret
                exact ⟨by rw [Hck.out, Hr.out]; show _ = Ending.returned (errVal (some ((codeR 3 : Int), some (d : Int)))); rw [← errNew_nz d (codeR_nz 3)]; rfl, Hb.out.trans (Hb3.out.mono Hb.out.size)⟩
              | false =>
                have hC := Lib.hid (HAll.out 3 false hz)
                have HA := Lib.hid (fun o => Hwq.out.alloc (o := o) Hwq.out.size)
                have HA2 := Lib.hid (fun o => Hbq.out.alloc (o := o) Hbq.out.size)
                have Ht2 := Lib.hid (fun j (hj : j < 4) => show brk k d (befK k d) j = false from by
                  rcases Nat.lt_or_ge j 3 with h | h
                  · exact htq.out j h
                  · rw [show j = 3 by omega]; exact hz)
                clear hz hq3 hq4
                go_wp2_with (refine wpList_index_st _ _ _ rfl rfl _ 3 4 117 _ _ rfl rfl Tryz.underlying118 (by omega) Tryz.underlying117 sizeRule rfl ?_)
                refine (hC.out _ (HA.out _)).mono ?_
                rintro e w3 ⟨rfl, hb3⟩
                have Hb3 := Lib.hid ((HA2.out _).trans (hb3.mono (HA2.out _).size))
                clear hb3
                go_wp2
                go_roundw
                case rel => exact ⟨4, by omega, by go_num, Hb3.out, Ht2.out⟩
                case measure => simp [intOf]
          · obtain rfl : q = 4 := by omega
            have Hwk := Lib.hid (HWb.out.2 htq.out)
            have Hr := Lib.hid (firstS_step ht (Hat.out.trans (if_pos Hwk.out)))
            obtain ⟨x0, x1⟩ := HX.out _ (Hb2.out.trans (Hbq.out.mono Hb2.out.size))
            go_wp2_with fail
            refine (HUn.out _ Hwq.out).mono ?_
            rintro e w3 ⟨⟨v, rfl, ho⟩, hb3⟩
            have Hb3 := Lib.hid (Hb.out.trans ((Hwq.out.trans (hb3.mono Hwq.out.size)).mono Hb.out.size))
            obtain ⟨b2, c2, rfl, hI2⟩ := ivs_own ho (HBs.out ▸ HBl.out)
            have HI2 := Lib.hid hI2
            clear ho hb3 hI2
            go_wp2
            go_roundw
            case rel => exact ⟨d + 1, b2, _, c2, by omega, by go_num, rfl, Hb3.out, by rw [HBs.out]; exact HI2.out, Hr.out⟩
            case measure => simp [intOf]; omega
      · obtain rfl : d = n := by omega
        have Hr := Lib.hid (firstS_none (n := k.length) (fun j hj => ht j (by rw [← Hl.out]; exact hj)))
        clear hB
        go_wp2
        go_ret
        exact ⟨by rw [Hck.out, Hr.out]; rfl, Hb.out⟩

end Go.Proofs.YtkkdlgcfcbaibaaGreatDoor
end

section
namespace Go.Proofs.YtkkdlgcfcbaibaaGreatDoor
open Go.RowKit
set_option linter.unusedVariables false

theorem canCanon_any (a : Option Addr) (n cap : Nat) (k : Kno) (w : World) (hE : Frags w a n cap k) (hJ : Joins k) (hS : (startsK k).length ≤ 10000) :
    Calls Tryz.prog 36 #[.slice a n cap] w fun x w' => (∃ y, x = .returned y ∧ OwnK w' w.heap.size 0 y (canonK k)) ∧ Below w.heap.size w w' := by
  have hC := Lib.hid (refine_any a n cap k w hE hJ hS)
  have hp : (piecesK k).length ≤ 10000 := by
    have h1 := pieceTo_len k (startsK k).length
    rw [pieceTo_all] at h1
    omega
  have hl : (refineK k).length ≤ 50000 := by unfold refineK; rw [List.length_map]; omega
  have hs : isum (refineK k) ≤ 50000 := by unfold refineK; rw [isum_ref k k]; omega
  have hv : ∀ f ∈ refineK k, VecFits f.2 ∧ CanV f.2 := fun f hf => by
    unfold refineK at hf
    obtain ⟨s, hs, rfl⟩ := List.mem_map.1 hf
    obtain ⟨c1, c2, _⟩ := atK_can hJ.lt s.1
    have h1 : VecFits (atK k s.1) := by rw [← atTo_all]; exact hJ.fits.at_ _ _
    exact ⟨h1, c1⟩
  have hG := Lib.hid (fun a c w' (h : Frags w' a (refineK k).length c (refineK k)) => group_any a _ c (refineK k) w' h (refine_raw hJ.lt) (fun f hf => (hv f hf).1) (fun f hf => (hv f hf).2) hs hl)
  have Hck := Lib.hid (show canonK k = groupK (refineK k) from rfl)
  clear hE hJ hS hl hs hv hp
  go_enter Tryz.func36, Tryz.ntmps36
  go_wp2_with fail
  refine hC.out.mono ?_
  rintro e w1 ⟨⟨v, rfl, ho⟩, hb⟩
  have Hb := Lib.hid hb
  obtain ⟨a1, c1, rfl, h1⟩ := ho.frags
  have H1 := Lib.hid h1
  clear ho hb h1
  go_wp2_with fail
  refine (hG.out a1 c1 w1 H1.out).mono ?_
  rintro e w2 ⟨⟨v, rfl, ho⟩, hb⟩
  have Ho := Lib.hid ho; have Hb2 := Lib.hid hb
  clear ho hb
  go_wp2
  go_ret
  exact ⟨⟨v, rfl, by rw [Hck.out]; exact Ho.out.lower Hb.out.size⟩, Hb.out.trans (Hb2.out.mono Hb.out.size)⟩

theorem canCanonical_any (a : Option Addr) (n cap : Nat) (k : Kno) (w : World) (hE : Frags w a n cap k) (hD : Door w) (hCo : Codes w) (hv : ∀ f ∈ k, VecFits f.2) (hI : 4 * isum k + 1 ≤ 900000) :
    Calls Tryz.prog 37 #[.slice a n cap] w fun x w' => x = .returned (.bool (decide (ckC k = none))) ∧ Below w.heap.size w w' := by
  have hC := Lib.hid (canCheck_any a n cap k w hE hD hCo hv hI)
  clear hE hD hCo hv hI
  cases h : ckC k with
  | none =>
    rw [h] at hC
    simp only [errOf, errVal] at hC
    clear h
    go_enter Tryz.func37, Tryz.ntmps37
    go_wp2_with fail
    refine hC.out.mono ?_
    rintro e w1 ⟨rfl, hb1⟩
    have Hb1 := Lib.hid hb1; clear hb1
    go_wp2
    go_ret
    exact ⟨by simp, Hb1.out⟩
  | some x =>
    obtain ⟨cd, i⟩ := x
    rw [h] at hC
    simp only [errOf, errVal] at hC
    clear h
    go_enter Tryz.func37, Tryz.ntmps37
    go_wp2_with fail
    refine hC.out.mono ?_
    rintro e w1 ⟨rfl, hb1⟩
    have Hb1 := Lib.hid hb1; clear hb1
    go_wp2
    go_ret
    exact ⟨by simp, Hb1.out⟩

end Go.Proofs.YtkkdlgcfcbaibaaGreatDoor
end

section
namespace Go.Proofs.YtkkdlgcfcbaibaaGreatDoor
set_option linter.unusedVariables false

structure SmallK (k : Kno) : Prop where
  len : k.length ≤ 15
  items : ∀ f ∈ k, f.1.length ≤ 20
  vec : ∀ f ∈ k, f.2.length ≤ 20
  holes : ∀ f ∈ k, ∀ e ∈ f.2, e.2.2.length ≤ 30

theorem fewF_iff {f : Frg} : fewF f = true ↔ f.1.length ≤ 20 ∧ f.2.length ≤ 20 ∧ ∀ e ∈ f.2, e.2.2.length ≤ 30 := by
  simp only [fewF, fewV, Bool.and_eq_true, decide_eq_true_eq, List.all_eq_true]
  constructor
  · rintro ⟨h1, h2, h3⟩; exact ⟨h1, h3, h2⟩
  · rintro ⟨h1, h2, h3⟩; exact ⟨h1, h3, h2⟩

theorem isum_le {m : Nat} : ∀ {k : Kno}, (∀ f ∈ k, f.1.length ≤ m) → isum k ≤ m * k.length
  | [], _ => by simp [isum]
  | f :: k, h => by
    rw [isum, List.length_cons, Nat.mul_succ]
    have h1 := h f List.mem_cons_self
    have h2 := isum_le (k := k) fun g hg => h g (List.mem_cons_of_mem _ hg)
    omega

theorem fewK_small {k : Kno} (h : fewK k = true) : SmallK k ∧ k.length ≤ 12 ∧ isum k ≤ 240 := by
  simp only [fewK, Bool.and_eq_true, decide_eq_true_eq, List.all_eq_true] at h
  have hf := fun f hf => fewF_iff.1 (h.1 f hf)
  refine ⟨⟨by omega, fun f h => (hf f h).1, fun f h => (hf f h).2.1, fun f h => (hf f h).2.2⟩, h.2, ?_⟩
  have := isum_le (m := 20) (k := k) fun f h => (hf f h).1
  omega

theorem allL_len (k : Kno) : (allL (k.map (·.1))).length ≤ 1 + isum k * 2 := by
  unfold allL
  rw [List.length_cons]
  induction k with
  | nil => simp [isum]
  | cons f k ih =>
    rw [List.map_cons, List.flatMap_cons, List.length_append, isum]
    have := bnds_len f.1
    omega

theorem startsK_le (k : Kno) : (startsK k).length ≤ 1 + isum k * 2 := by
  refine Nat.le_trans (List.length_filter_le _ _) (Nat.le_trans ?_ (allL_len k))
  unfold allK
  exact asc_len (sortA_asc _) (fun y hy => (sortA_mem _ _).1 hy)

theorem doV_len (g : Bool → Bool → Bool) (a b : Vec) : (doV g a b).length ≤ a.length + b.length := by
  unfold doV
  refine Nat.le_trans (List.length_filterMap_le _ _) ?_
  unfold repsV
  have := asc_len (sortA_asc (a.map (·.1) ++ b.map (·.1))) (M := a.map (·.1) ++ b.map (·.1)) (fun y hy => (sortA_mem _ _).1 hy)
  simpa using this

theorem knownAt_doV {a b : Vec} (ha : LtV a) (hb : LtV b) (pa : a.Pairwise RepLt) (pb : b.Pairwise RepLt) (r : Nat) : knownAt (doV gOr a b) r = opL gOr (knownAt a r) (knownAt b r) := by
  obtain ⟨c1, c2, c3⟩ := doV_can (g := gOr) rfl ha hb pa pb
  have ho := opL_good (g := gOr) (knownAt_lt ha r) (knownAt_lt hb r) rfl
  refine good_ext (knownAt_good c2 r) ho.1 fun x => ?_
  rw [knownAt_mem c2 c1.asc, c3, ho.2.1, knownAt_mem ha pa, knownAt_mem hb pb]

theorem knownAt_le {v : Vec} (hl : LtV v) {m : Nat} (h : ∀ e ∈ v, e.2.2.length ≤ m) (r : Nat) : (knownAt v r).length ≤ 1 + m := by
  unfold knownAt
  split
  · rename_i e he
    have hm := List.mem_of_find?_eq_some he
    have := knownL_len (hl e hm).holes (hl e hm).max
    have := h e hm
    omega
  · simp

theorem knownAt_of {v : Vec} (ha : v.Pairwise RepLt) {e : Ent} (he : e ∈ v) : knownAt v e.1 = knownL e := by
  unfold knownAt
  cases hf : v.find? (fun f => decide (f.1 = e.1)) with
  | none => exact absurd (decide_eq_true rfl) (List.find?_eq_none.1 hf e he)
  | some f =>
    have h1 := List.mem_of_find?_eq_some hf
    have h2 : f.1 = e.1 := by have := List.find?_some hf; exact of_decide_eq_true this
    rw [rep_unique ha h1 he (by omega)]

theorem atTo_len {k : Kno} (hk : LtK k) (hs : SmallK k) (x : Nat) : ∀ d, d ≤ k.length → (atTo k x d).length ≤ 20 * d ∧ ∀ r, (knownAt (atTo k x d) r).length ≤ 31 * d
  | 0, _ => ⟨by simp [atTo_zero], fun r => by simp [atTo_zero, knownAt]⟩
  | d + 1, h => by
    obtain ⟨h1, h2⟩ := atTo_len hk hs x d (by omega)
    rw [atTo_succ (by omega)]
    have hm := nthF_mem (k := k) (i := d) (by omega)
    split
    · have hc := atTo_can hk x d
      have hl := ltV_atTo hk x d
      refine ⟨?_, fun r => ?_⟩
      · have := doV_len gOr (atTo k x d) (nthF k d).2
        have := hs.vec _ hm
        omega
      · rw [knownAt_doV hl (hk _ hm).vec hc.asc (hk _ hm).asc]
        have a1 := opL_len_or (knownAt_lt hl r) (knownAt_lt (hk _ hm).vec r)
        have a2 := knownAt_le (hk _ hm).vec (hs.holes _ hm) r
        have := h2 r
        omega
    · exact ⟨by omega, fun r => by have := h2 r; omega⟩

theorem vec_fits {v : Vec} (hc : CanV v) (hl : LtV v) (h1 : v.length ≤ 300) (h2 : ∀ r, (knownAt v r).length ≤ 499) : VecFits v := by
  refine ⟨h1, fun e he => ?_⟩
  have h3 := canonE_self (hl e he) (hc.ent e he)
  unfold canonE at h3
  have h4 := ofE_len (knownL_good (hl e he)).2.2 h3
  have h5 := h2 e.1
  rw [knownAt_of hc.asc he] at h5
  omega

theorem atTo_min (k : Kno) (x d : Nat) : atTo k x d = atTo k x (min d k.length) := by
  unfold atTo
  rw [List.take_eq_take_min]

theorem small_fits {k : Kno} (hk : LtK k) (hs : SmallK k) : KnoFits k := by
  refine ⟨by have := hs.len; omega, fun f hf => by have := hs.items f hf; omega, fun f hf => ⟨by have := hs.vec f hf; omega, fun e he => by have := hs.holes f hf e he; omega⟩, fun x d => ?_⟩
  rw [atTo_min]
  obtain ⟨h1, h2⟩ := atTo_len hk hs x (min d k.length) (Nat.min_le_right ..)
  have := hs.len
  have hm : min d k.length ≤ 15 := Nat.le_trans (Nat.min_le_right ..) hs.len
  exact vec_fits (atTo_can hk x _) (ltV_atTo hk x _) (by omega) (fun r => by have := h2 r; omega)

theorem small_joins {k : Kno} (hk : LtK k) (hs : SmallK k) (hc : ckF k = none) : Joins k :=
  ⟨small_fits hk hs, hk, fun f hf => ((ckF_none.1 hc) f hf).2, fun f hf => ((ckF_none.1 hc) f hf).1⟩

/-! The canonical form fits as well. -/
end Go.Proofs.YtkkdlgcfcbaibaaGreatDoor
end

section
namespace Go.Proofs.YtkkdlgcfcbaibaaGreatDoor
open Go.RowKit
set_option linter.unusedVariables false

/-- What the laws ask of a world. -/
structure Ready (w : World) : Prop where
  door : Door w
  codes : Codes w
theorem Ready.below {w w' : World} (h : Ready w) (hb : Below w.heap.size w w') : Ready w' := ⟨h.door.below (Nat.le_refl _) hb, h.codes.below hb⟩

abbrev exV : Vec := [(1, 3, [])]
abbrev exK : Kno := [([(4, 6)], exV), ([(1, 3)], exV)]
abbrev exC : Kno := [([(1, 6)], exV)]

theorem lit_ents {W : World} {b0 : Nat} (h0 : W.heap[b0]? = some (.cells #[.int .u64 1, .int .u64 3, .slice none 0 0] 71)) : Ents W (some ⟨b0, 0, none⟩) 1 1 exV := by
  refine ⟨rfl, ?_, Nat.le_refl _, by omega, (by intro h; cases h), fun _ => ⟨b0, 0, rfl, fun i hi => ?_⟩⟩
  · intro e he
    simp at he
    subst he
    exact ⟨by simp, by simp, fun s hs => by cases hs⟩
  · obtain rfl : i = 0 := by omega
    exact ⟨cells_cell (i := 0) h0 rfl, cells_cell (i := 1) h0 rfl, none, 0, 0, cells_cell (i := 2) h0 rfl, ivs_nil _⟩

theorem lit_two {W : World} {b0 b1 b2 b3 : Nat} (h0 : W.heap[b0]? = some (.cells #[.int .u64 1, .int .u64 3, .slice none 0 0] 71)) (h1 : W.heap[b1]? = some (.cells #[.int .u64 4, .int .u64 6] 73))
    (h2 : W.heap[b2]? = some (.cells #[.int .u64 1, .int .u64 3] 73)) (h3 : W.heap[b3]? = some (.cells #[.slice (some ⟨b1, 0, none⟩) 1 1, .slice (some ⟨b0, 0, none⟩) 1 1, .slice (some ⟨b2, 0, none⟩) 1 1, .slice (some ⟨b0, 0, none⟩) 1 1] 39)) :
    Frags W (some ⟨b3, 0, none⟩) 2 2 exK := by
  have hv := lit_ents h0
  have i1 : Ivs W (some ⟨b1, 0, none⟩) 1 1 [(4, 6)] := ivs_lit (s := (4, 6)) h1 (by decide)
  have i2 : Ivs W (some ⟨b2, 0, none⟩) 1 1 [(1, 3)] := ivs_lit (s := (1, 3)) h2 (by decide)
  refine ⟨rfl, Nat.le_refl _, by omega, (by intro h; cases h), fun _ => ⟨b3, 0, rfl, fun i hi => ?_⟩⟩
  rcases (by omega : i = 0 ∨ i = 1) with rfl | rfl
  · exact ⟨⟨_, _, _, cells_cell (i := 0) h3 rfl, i1⟩, ⟨_, _, _, cells_cell (i := 1) h3 rfl, hv⟩⟩
  · exact ⟨⟨_, _, _, cells_cell (i := 2) h3 rfl, i2⟩, ⟨_, _, _, cells_cell (i := 3) h3 rfl, hv⟩⟩

theorem lit_one {W : World} {b0 b1 b3 : Nat} (h0 : W.heap[b0]? = some (.cells #[.int .u64 1, .int .u64 3, .slice none 0 0] 71)) (h1 : W.heap[b1]? = some (.cells #[.int .u64 1, .int .u64 6] 73))
    (h3 : W.heap[b3]? = some (.cells #[.slice (some ⟨b1, 0, none⟩) 1 1, .slice (some ⟨b0, 0, none⟩) 1 1] 39)) : Frags W (some ⟨b3, 0, none⟩) 1 1 exC := by
  have hv := lit_ents h0
  have i1 : Ivs W (some ⟨b1, 0, none⟩) 1 1 [(1, 6)] := ivs_lit (s := (1, 6)) h1 (by decide)
  refine ⟨rfl, Nat.le_refl _, by omega, (by intro h; cases h), fun _ => ⟨b3, 0, rfl, fun i hi => ?_⟩⟩
  obtain rfl : i = 0 := by omega
  exact ⟨⟨_, _, _, cells_cell (i := 0) h3 rfl, i1⟩, ⟨_, _, _, cells_cell (i := 1) h3 rfl, hv⟩⟩

theorem lit_zero {W : World} {b : Nat} (h : W.heap[b]? = some (.cells #[.int .i64 0] 3 (0, 0))) : W.ownsRow b 3 1 (.slice (some ⟨b, 0, none⟩) 1 1) 1 (i64C [0]) :=
  ⟨rfl, .inr ⟨b, 1, _, rfl, Nat.le_refl _, h, Nat.le_refl _, by unfold maxLen; omega, rfl, rfl⟩⟩

theorem ex_ck : ckF exK = none := by decide +kernel
theorem ex_canon : canonK exK = exC := by decide +kernel
theorem ex_ckC : ckC exC = none := by decide +kernel
theorem ex_ckK : ckC exK = some (3, 1) := by decide +kernel
theorem ex_five : intO (firstS (fun i => if mem (nthF exC i).1 5 = true then some i else none) exC.length) = 0 := by decide +kernel
theorem ex_seven : intO (firstS (fun i => if mem (nthF exC i).1 7 = true then some i else none) exC.length) = -1 := by decide +kernel
theorem ex_pos : posK exC 1 = 0 := by decide +kernel

end Go.Proofs.YtkkdlgcfcbaibaaGreatDoor
end
