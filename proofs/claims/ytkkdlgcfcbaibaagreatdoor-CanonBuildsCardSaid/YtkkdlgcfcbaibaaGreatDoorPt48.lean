/- Walks and laws, merged: part 48. -/
import Derived.Test.YtkkdlgcfcbaibaaGreatDoorRows
import Derived.ChangeSame
import Derived.ChangeVars
import Derived.JoinedOf
import Derived.RowKit
import Derived.RowKitTokens
import Derived.LaidLaws
import Derived.LaidHandle
import Derived.LaidSub
import Derived.LaidMore
import Derived.Lay
import Derived.HandedShaped
import Derived.Deep.DeepLaidRun
import Derived.Lib.LaidTab
import Derived.Stop.LaidErr
import Derived.Stop.Joined
import Derived.Deep.SlicePairs
import Derived.ProofKit
import Derived.OpenShut
import Derived.Below
import Derived.Test.YtkkdlgcfcbaibaaGreatDoorPt46
import Derived.Test.YtkkdlgcfcbaibaaGreatDoorPt47
import Derived.Test.YtkkdlgcfcbaibaaGreatDoorPt42
import Derived.Test.YtkkdlgcfcbaibaaGreatDoorPt43
section
namespace Go.Proofs.YtkkdlgcfcbaibaaGreatDoor
open Go.RowKit
set_option linter.unusedVariables false

theorem fewV_fits {v : Vec} (h : fewV v = true) : VecFits v := by
  unfold fewV at h
  rw [Bool.and_eq_true, decide_eq_true_eq, List.all_eq_true] at h
  exact ⟨by omega, fun e he => by have := h.1 e he; rw [decide_eq_true_eq] at this; omega⟩

set_option maxRecDepth 20000 in
set_option maxHeartbeats 4000000 in
theorem walkCanonBuilds (av al ai : Option Addr) (nv cv nl cl ni ci : Nat) (vs : List Vec) (l : List Iv) (ix : List Int) (w : World) (hV : Vecs w av nv cv vs) (hI : Ivs w al nl cl l) (hZ : Zs w ai ni ci ix) (hR : Ready w) :
    Calls Tryz.prog 6 #[.slice av nv cv, .slice al nl cl, .slice ai ni ci] w fun e w' => e = .returned (.bool true) ∧ Below w.heap.size w w' := by
  have HR := Lib.hid (fun W (h : Below w.heap.size w W) => hR.below h)
  have HV := Lib.hid (fun W (h : Below w.heap.size w W) => hV.below h)
  have HI := Lib.hid (fun W (h : Below w.heap.size w W) => hI.below h)
  have HZ := Lib.hid (fun W (h : Below w.heap.size w W) => hZ.below h)
  have Hvl := Lib.hid hV.len
  have HVf := Lib.hid hV
  have hm : nv ≤ 9223372036854775807 := Nat.le_trans hV.room hV.most
  clear hR hV hI hZ
  by_cases h1 : 12 < nv
  · have d1 : decide ((12 : Int) < (nv : Int)) = true := by rw [decide_eq_true_iff]; omega
    clear HVf
    go_enter Tryz.func6, Tryz.ntmps6
    go_wp2_with fail
    refine (alive_any _ (HR.out _ (Below.refl _ _))).mono ?_
    rintro e w1 ⟨rfl, hb1⟩
    have Hb1 := Lib.hid hb1; clear hb1
    go_wp2_with fail
    go_ret
    exact ⟨rfl, Hb1.out⟩
  have d1 : decide ((12 : Int) < (nv : Int)) = false := by rw [decide_eq_false_iff_not]; omega
  by_cases h2 : 20 < nl
  · have d2 : decide ((20 : Int) < (nl : Int)) = true := by rw [decide_eq_true_iff]; omega
    clear HVf
    go_enter Tryz.func6, Tryz.ntmps6
    go_wp2_with fail
    refine (alive_any _ (HR.out _ (Below.refl _ _))).mono ?_
    rintro e w1 ⟨rfl, hb1⟩
    have Hb1 := Lib.hid hb1; clear hb1
    go_wp2_with fail
    go_ret
    exact ⟨rfl, Hb1.out⟩
  have d2 : decide ((20 : Int) < (nl : Int)) = false := by rw [decide_eq_false_iff_not]; omega
  by_cases h3 : 20 < ni
  · have d3 : decide ((20 : Int) < (ni : Int)) = true := by rw [decide_eq_true_iff]; omega
    clear HVf
    go_enter Tryz.func6, Tryz.ntmps6
    go_wp2_with fail
    refine (alive_any _ (HR.out _ (Below.refl _ _))).mono ?_
    rintro e w1 ⟨rfl, hb1⟩
    have Hb1 := Lib.hid hb1; clear hb1
    go_wp2_with fail
    go_ret
    exact ⟨rfl, Hb1.out⟩
  have d3 : decide ((20 : Int) < (ni : Int)) = false := by rw [decide_eq_false_iff_not]; omega
  go_enter Tryz.func6, Tryz.ntmps6
  go_wp2
  go_loopw [8, 30] (fun _ i wr => ∃ d : Nat, d ≤ nv ∧ i = .int .i64 d ∧ Below w.heap.size w wr ∧ Hid (∀ t, t < d → fewV (nthV vs t) = true)) (fun _ i _ => nv - (intOf i).toNat)
  case atStart => exact ⟨0, by omega, rfl, Below.refl _ _, fun t h => by omega⟩
  case round =>
    obtain ⟨d, hd, rfl, hb, ht⟩ := hrel
    have Hb := Lib.hid hb; clear hb
    by_cases hdn : d < nv
    · obtain ⟨bv, ov, rfl⟩ := HVf.out.some (by omega)
      obtain ⟨y, m, c, hq⟩ := HVf.out.fix hdn
      obtain ⟨q1, q2⟩ := hq _ Hb.out
      have hC := refFew9_any y m c (nthV vs d) wr q2
      have h0 : (0 : Int) ≤ d := by omega
      have h04 : (d : Int) < (nv : Int) := by omega
      clear hq q2
      cases hf : fewV (nthV vs d) with
      | false =>
        rw [hf] at hC
        have HC := Lib.hid hC
        clear hC hf
        go_wp2_with fail
        refine HC.out.mono ?_
        rintro e w1 ⟨rfl, hb1⟩
        have Hb1 := Lib.hid (Hb.out.trans (hb1.mono Hb.out.size)); clear hb1
        go_wp2_with fail
        refine (alive_any _ (HR.out _ Hb1.out)).mono ?_
        rintro e w2 ⟨rfl, hb2⟩
        have Hb2 := Lib.hid (Hb1.out.trans (hb2.mono Hb1.out.size)); clear hb2
        go_wp2_with fail
        go_ret
        exact ⟨rfl, Hb2.out⟩
      | true =>
        rw [hf] at hC
        have HC := Lib.hid hC
        have Ht := Lib.hid (all_step (p := fun t => fewV (nthV vs t) = true) ht.out hf)
        clear hC hf
        go_wp2_with fail
        refine HC.out.mono ?_
        rintro e w1 ⟨rfl, hb1⟩
        have Hb1 := Lib.hid (Hb.out.trans (hb1.mono Hb.out.size)); clear hb1
        go_wp2
        go_roundw
        case rel => exact ⟨d + 1, by omega, by go_num, Hb1.out, Ht.out⟩
        case measure => simp [intOf]; omega
    · obtain rfl : d = nv := by omega
      have hF : ∀ v ∈ vs, VecFits v := fun v hv => by
        obtain ⟨i, hi, rfl⟩ := List.getElem_of_mem hv
        have := fewV_fits (ht.out i (by rw [← Hvl.out]; exact hi))
        rwa [nthV_get hi] at this
      have HB := Lib.hid (fun W (h : Below w.heap.size w W) => canBuild_any av al ai d cv nl cl ni ci vs l ix W (HV.out W h) (HI.out W h) (HZ.out W h) (HR.out W h).door (HR.out W h).codes hF (by omega) (by omega))
      have HRf := Lib.hid (fun W (h : Below w.heap.size w W) => refBuild13_any av al ai d cv nl cl ni ci vs l ix W (HV.out W h) (HI.out W h) (HZ.out W h) hF (by omega) (by omega))
      unfold BldRes at HRf
      have hb0 := Hb.out
      obtain ⟨wB, hwB⟩ : ∃ wB : World, wB = wr := ⟨_, rfl⟩
      rw [← hwB] at hb0 ⊢
      have Hb0 := Lib.hid hb0
      clear hwB hb0 Hb ht hF HVf
      generalize bldErr vs l ix = er at *
      generalize bldRes vs l ix = K at *
      go_wp2_with fail
      refine (HB.out _ Hb0.out).mono ?_
      rintro e w1 ⟨⟨a1, n1, c1, rfl, hK⟩, hb1⟩
      have HK := Lib.hid (fun W (h : Below w1.heap.size w1 W) => hK.below h)
      have Hb1 := Lib.hid (Hb0.out.trans (hb1.mono Hb0.out.size)); clear hb1 hK
      go_wp2_with fail
      refine (HRf.out _ Hb1.out).mono ?_
      rintro e w2 ⟨⟨a2, n2, c2, rfl, hK2⟩, hb2⟩
      have HK2 := Lib.hid (fun W (h : Below w2.heap.size w2 W) => hK2.below h)
      have Hq2 := Lib.hid hb2
      have Hb2 := Lib.hid (Hb1.out.trans (hb2.mono Hb1.out.size)); clear hb2 hK2
      go_wp2_with fail
      refine (alive_any _ (HR.out _ Hb2.out)).mono ?_
      rintro e w3 ⟨rfl, hb3⟩
      have HS := Lib.hid (same_refl (HK.out _ (Hq2.out.trans (hb3.mono Hq2.out.size))) (HK2.out _ hb3))
      have Hb3 := Lib.hid (Hb2.out.trans (hb3.mono Hb2.out.size)); clear hb3
      go_wp2_with fail
      refine HS.out.mono ?_
      rintro e w4 ⟨rfl, hb4⟩
      have Hb4 := Lib.hid (Hb3.out.trans (hb4.mono Hb3.out.size)); clear hb4
      go_wp2_with fail
      refine (code_any er _ (HR.out _ Hb4.out).door).mono ?_
      rintro e w5 ⟨rfl, hb5⟩
      have Hb5 := Lib.hid (Hb4.out.trans (hb5.mono Hb4.out.size)); clear hb5
      go_wp2_with fail
      refine (at_any er _ (HR.out _ Hb5.out).door).mono ?_
      rintro e w6 ⟨rfl, hb6⟩
      have Hb6 := Lib.hid (Hb5.out.trans (hb6.mono Hb5.out.size)); clear hb6
      go_wp2_with fail
      go_ret
      exact ⟨rfl, Hb6.out⟩

end Go.Proofs.YtkkdlgcfcbaibaaGreatDoor
end

section
namespace Go.Proofs.YtkkdlgcfcbaibaaGreatDoor
open Go.ChangeShapes Go.WideShapes Go.RowKit
set_option linter.unusedVariables false

abbrev LL : List (String × DataW Unit) := Rows.canonSegmentsRow.laid

theorem Lay.own : ownKnob Tryz.prog.godebug = none := by kernel_rfl
theorem Lay.et : Tryz.prog.globalNamed "errors.errorType" = some 1 := by kernel_rfl
theorem Lay.rt : (Tryz.prog.cutTypes.find? (·.1 == "internal/reflectlite.rtype")).map (·.2) = some 186 := by kernel_rfl
theorem Lay.oneRow : ((List.range 320).filter fun t => Tryz.prog.rowNamed t [101, 114, 114, 111, 114]) = [41] := by kernel_rfl
theorem Lay.size : Tryz.prog.types.size = 320 := by kernel_rfl

theorem door_of_handles {W : World} (h' : handlesMet Tryz.prog [("errors.errorType", Rows.laid_errors_errorType)] W) : Door W := by
  obtain ⟨name, u, ty, e1, e2, e3, e4, e5⟩ := h' _ (List.mem_singleton.2 rfl)
  have en : name = [101, 114, 114, 111, 114] := (Option.some.inj e1).symm
  subst en
  obtain rfl := Option.some.inj (Lay.rt.symm.trans e2)
  have hm : ty ∈ (List.range 320).filter fun t => Tryz.prog.rowNamed t [101, 114, 114, 111, 114] := List.mem_filter.2 ⟨List.mem_range.2 (by rw [← Lay.size]; exact e3), e4⟩
  rw [Lay.oneRow] at hm
  obtain rfl := List.mem_singleton.1 hm
  have hh : typeHandle Tryz.prog 41 = .pointer (some ⟨2, 41, none⟩) := by kernel_rfl
  rw [hh] at e5
  have := World.var?_cell Lay.et e5 0
  unfold Door
  simpa using this

theorem LL_parts {W : World} (h : laidMetH Tryz.prog LL W) : laidMet Tryz.prog (LL.filter fun x => x.2.handleName?.isNone) W ∧ handlesMet Tryz.prog [("errors.errorType", Rows.laid_errors_errorType)] W := h

theorem Lay.codes : (LL.filter fun x => x.2.handleName?.isNone) = [("kenning/canon.codes", Lib.tabData .i64 [9, 10, 10, 3])] := by rfl

theorem codes_of_laid {W : World} (h : laidMet Tryz.prog (LL.filter fun x => x.2.handleName?.isNone) W) : Codes W := by
  rw [Lay.codes] at h
  have hg : Tryz.prog.globalNamed "kenning/canon.codes" = some 0 := by kernel_rfl
  have ht := Lib.tabIs_of_head (g := 0) (t := 120) (e := 50) (n := 4) hg (by kernel_rfl) Tryz.underlying120 Tryz.underlying50 (by kernel_rfl) (by kernel_rfl) h
  intro n hn
  have := ht.cell hg n (by simpa using hn)
  rcases (by omega : n = 0 ∨ n = 1 ∨ n = 2 ∨ n = 3) with rfl | rfl | rfl | rfl
  · exact this
  · exact this
  · exact this
  · exact this

theorem ready_of_laid {W : World} (h : laidMetH Tryz.prog LL W) (hs : W.ShapedOpen Tryz.prog) : Ready W := by
  obtain ⟨h1, h2⟩ := LL_parts h
  exact ⟨door_of_handles h2, codes_of_laid h1⟩

noncomputable def laidWorld (os : Os) : World := World.doorLaid Tryz.prog 21 os
theorem laidWorld_met (os : Os) (args : Array Value) : laidMetH Tryz.prog LL ((laidWorld os).forCall (fun _ _ => 0) ⟨#[], args, []⟩).memory :=
  laidMetH_of_parts (laidMet_of_run3 8 (by kernel_rfl) (by kernel_rfl) (by kernel_rfl)) (by kernel_rfl)
theorem laidWorld_os (os : Os) : (laidWorld os).os = os := rfl
theorem laidWorld_shaped (os : Os) (args : Array Value) : ((laidWorld os).forCall (fun _ _ => 0) ⟨#[], args, []⟩).Shaped Tryz.prog := World.shaped_of_ZipB (by kernel_rfl) (by kernel_rfl)

/-- The wrap of a row with a condition on its world, the world's shape kept. -/
theorem handed_and_shaped {H : Type} {enc : TypeId × Value → H} {a : Assume} {C : Checked} {os : Os} {f : FuncId} {fn : Func} {s : ChangeSpec} {conds : List PathCond} {apart fresh handsOn again : Bool} {X : World → Array Value → Prop}
    (hX : ∀ (w w' : World) (args : Array Value), w.heap = w'.heap → X w args → X w' args)
    (own : ownKnob C.prog.godebug = none) (started : os.Started) (noInit : C.prog.inits.idxOf? f = none) (hfn : C.prog.funcs[f]? = some fn)
    (witness : ∃ (w : World) (tape : Tape) (i : Input), w.os = os ∧ (w.forCall tape i).Shaped C.prog ∧ i.vars = [] ∧ Input.okWide C.prog (w.forCall tape i) .any w.heap.size f i ∧
      ((s.pre enc C.prog fn conds apart (w.forCall tape i).memory i.args ∧ X (w.forCall tape i).memory i.args) ∧ sizedMet enc C.prog fn (OpenSpec.ofChange s) apart (w.forCall tape i).memory i.args) ∧ a.holds C.prog (lone (Frame.enter C.prog f i.args .normal) [] (w.forCall tape i)))
    (contract : ∀ (W : World) (base : Nat) (args : Array Value) (ds gs : List (DataW H)) (before : List MemPlace),
      (∀ (j : Nat) t v, fn.params[j]? = some t → args[j]? = some v → Value.okWide C.prog W .any base t v) →
      DataW.Whole enc C.prog fn.params.toList s.vars apart W args.toList ds gs before →
      conds.all (PathCond.test C.prog ⟨fn.params.toList, ds, s.plain.varTypes C.prog, gs⟩) = true →
      (DataW.weightsEach C.prog (fn.params.toList ++ s.plain.varTypes C.prog) (ds ++ gs)).all (· ≤ reachBytes) = true → X W args → W.ShapedOpen C.prog →
      a.holds C.prog (lone (Frame.enter C.prog f args .normal) [] W) →
      Calls C.prog f args W fun e W' => ∃ v, e = .returned v ∧ s.post enc C.prog fn apart fresh handsOn again W args v W') :
    ReturnsInHanded a C os f .any (fun w args => (s.pre enc C.prog fn conds apart w args ∧ X w args) ∧ sizedMet enc C.prog fn (OpenSpec.ofChange s) apart w args) (s.post enc C.prog fn apart fresh handsOn again) := by
  refine returnsInHanded_of_calls own started noInit witness ?_
  intro w tape i _ hsh _ hok hpre hholds
  obtain ⟨_, _, _, fn', hfn', _, _, _, _, hval⟩ := hok
  have e : fn' = fn := Option.some.inj (hfn'.symm.trans hfn)
  subst e
  obtain ⟨⟨⟨ds, gs, before, hw, hc⟩, hx⟩, hz⟩ := hpre
  have hw' := DataW.Whole.of_heap (w' := w.forCall tape i) (by rfl) hw
  refine (contract (w.forCall tape i) w.heap.size i.args ds gs before hval hw' hc (hz.weights hw) (hX _ _ _ (by rfl) hx) hsh hholds).mono fun e W' ⟨v, he, hp⟩ => ?_
  subst he
  exact ChangeSpec.post_blind hp

theorem u64_wf {z : Int} (h : (Lit.int .u64 z).wf = true) : ∃ n : Nat, z = n ∧ n < 18446744073709551616 := by
  have h' : 0 ≤ z ∧ z ≤ 18446744073709551615 := by
    simp [Lit.wf, IntKind.min, IntKind.max, IntKind.bits, IntKind.signed] at h
    omega
  exact ⟨z.toNat, by omega, by omega⟩

theorem addr_plain {w : World} {b o d : Nat} {k : Option Nat} {v : Value} (h : w.cell? ((⟨b, o, k⟩ : Addr).add (0 * d)) = some v) : k = none := by
  cases k with
  | none => rfl
  | some j =>
    rw [Nat.zero_mul] at h
    have hx : ((⟨b, o, some j⟩ : Addr).add 0) = ⟨b, o, some j⟩ := rfl
    rw [hx] at h
    unfold World.cell? at h
    split at h <;> simp at h

section
variable {H : Type} {enc : TypeId × Value → H} {W : World} {fuel : Nat} {x : DataW H × List MemPlace}

/-- A slice of structs of three one-cell fields, opened at every index. -/
theorem open_slice_three {P : Program} {base : Nat} {spare : Nat → Bool} {held : Bool} {t e : TypeId} {f0 f1 f2 : Field} {cs : List Value} (ht : P.underlying t = some (.slice e)) (he : P.underlying e = some (.struct #[f0, f1, f2]))
    (ce : P.cellsOf e = 3) (o0 : f0.offset = 0) (o1 : f1.offset = 1) (o2 : f2.offset = 2) (c0 : P.cellsOf f0.type = 1) (c1 : P.cellsOf f1.type = 1) (c2 : P.cellsOf f2.type = 1)
    (h : DataW.trod enc P W base spare held fuel t cs = some x) :
    cs = [.slice none 0 0] ∨ ∃ (a : Addr) (len cap m n : Nat), cs = [.slice (some a) len cap] ∧ len ≤ cap ∧ cap ≤ maxLen ∧ m = (if spare a.block then cap else len) ∧
      ∀ i, i < m → ∃ v0 v1 v2 y0 y1 y2, W.cell? (a.add (i * 3)) = some v0 ∧ W.cell? (a.add (i * 3 + 1)) = some v1 ∧ W.cell? (a.add (i * 3 + 2)) = some v2 ∧
        DataW.trod enc P W base spare held n f0.type [v0] = some y0 ∧ DataW.trod enc P W base spare held n f1.type [v1] = some y1 ∧ DataW.trod enc P W base spare held n f2.type [v2] = some y2 := by
  rcases Deep.open_slice ht h with ⟨h0, -⟩ | ⟨a, len, cap, m, n, D, Pl, rfl, hb, hl, hm, hmm, rfl, hx⟩
  · exact Or.inl h0
  right
  refine ⟨a, len, cap, m, n - 1, rfl, hl, hm, hmm, fun i hi => ?_⟩
  obtain ⟨cs', h1, h2⟩ := hx i hi
  rw [ce] at h1
  obtain ⟨_, hlen, hcell⟩ := World.cells?_some h1
  obtain ⟨xs, k, hk, hxy, _, hxl, hf⟩ := DataW.trod_struct he h2
  have hk' : k = n - 1 := by omega
  subst hk'
  match xs, hxl, cs', hlen with
  | [y0, y1, y2], _, [v0, v1, v2], _ =>
    have g0 := hf 0 f0 rfl
    have g1 := hf 1 f1 rfl
    have g2 := hf 2 f2 rfl
    simp [o0, o1, o2, c0, c1, c2] at g0 g1 g2
    have e0 := hcell 0 (by omega)
    have e1 := hcell 1 (by omega)
    have e2 := hcell 2 (by omega)
    rw [Deep.add_add] at e0 e1 e2
    exact ⟨v0, v1, v2, y0, y1, y2, by simpa using e0, by simpa using e1, by simpa using e2, g0, g1, g2⟩

/-- A slice of intervals that came in. -/
theorem ivs_open {v : Value} (h : DataW.trod enc Tryz.prog W 0 (fun _ => true) true fuel 28 [v] = some x) : ∃ a n c l, v = .slice a n c ∧ Ivs W a n c l := by
  rcases Deep.open_slice_pairs Tryz.underlying28 Tryz.underlying73 (by kernel_rfl) rfl rfl (by kernel_rfl) (by kernel_rfl) h with ⟨hcs, _⟩ | ⟨ad, len, cap, m, n, V0, V1, D0, D1, P0, P1, hcs, hb, hl, hm, hmm, hx, hc⟩
  · simp at hcs
    subst hcs
    exact ⟨none, 0, 0, [], rfl, ivs_nil _⟩
  · simp at hcs
    subst hcs
    have each : ∀ i, i < m → ∃ s : Iv, W.cell? (ad.add (i * 2)) = some (.int .u64 ((s.1 : Nat) : Int)) ∧ W.cell? (ad.add (i * 2 + 1)) = some (.int .u64 ((s.2 : Nat) : Int)) ∧ s.1 < 18446744073709551616 ∧ s.2 < 18446744073709551616 := by
      intro i hi
      obtain ⟨h1, h2, h3, h4⟩ := hc i hi
      obtain ⟨z0, e0, _, w0⟩ := DataW.trod_int Tryz.underlying24 h3
      obtain ⟨z1, e1, _, w1⟩ := DataW.trod_int Tryz.underlying24 h4
      obtain ⟨n0, rfl, l0⟩ := u64_wf w0
      obtain ⟨n1, rfl, l1⟩ := u64_wf w1
      simp only [List.cons.injEq, and_true] at e0 e1
      rw [e0] at h1
      rw [e1] at h2
      exact ⟨(n0, n1), h1, h2, l0, l1⟩
    obtain ⟨f, hf⟩ := Deep.choose_lt each
    have hmc : m = cap := by simpa using hmm
    refine ⟨some ad, len, cap, (List.range len).map f, rfl, by simp, ?_, hl, by unfold maxLen at hm; omega, (by intro h; cases h), fun hn => ?_⟩
    · intro s hs
      obtain ⟨i, hi, rfl⟩ := List.mem_map.1 hs
      have hi' : i < len := List.mem_range.1 hi
      exact (hf i (by omega)).2.2
    · obtain ⟨b, o, k⟩ := ad
      obtain rfl : k = none := addr_plain (hf 0 (by omega)).1
      refine ⟨b, o, rfl, fun i hi => ?_⟩
      obtain ⟨h1, h2, _, _⟩ := hf i (by omega)
      rw [add_at] at h1 h2
      have e : nthI ((List.range len).map f) i = f i := by rw [nthI_get (by simpa using hi)]; simp
      rw [e, Nat.add_assoc]
      exact ⟨h1, h2⟩

/-- A slice of entries that came in. -/
theorem ents_open {v : Value} (h : DataW.trod enc Tryz.prog W 0 (fun _ => true) true fuel 37 [v] = some x) : ∃ a n c l, v = .slice a n c ∧ Ents W a n c l := by
  rcases open_slice_three Tryz.underlying37 Tryz.underlying71 (by kernel_rfl) rfl rfl rfl (by kernel_rfl) (by kernel_rfl) (by kernel_rfl) h with hcs | ⟨ad, len, cap, m, n, hcs, hl, hm, hmm, hc⟩
  · simp at hcs
    subst hcs
    exact ⟨none, 0, 0, [], rfl, ents_nil _⟩
  · simp at hcs
    subst hcs
    have each : ∀ i, i < m → ∃ e : Ent, W.cell? (ad.add (i * 3)) = some (.int .u64 ((e.1 : Nat) : Int)) ∧ W.cell? (ad.add (i * 3 + 1)) = some (.int .u64 ((e.2.1 : Nat) : Int)) ∧ LtE e ∧
        ∃ x k c, W.cell? (ad.add (i * 3 + 2)) = some (.slice x k c) ∧ Ivs W x k c e.2.2 := by
      intro i hi
      obtain ⟨v0, v1, v2, y0, y1, y2, h1, h2, h3, g0, g1, g2⟩ := hc i hi
      obtain ⟨z0, e0, _, w0⟩ := DataW.trod_int Tryz.underlying24 g0
      obtain ⟨z1, e1, _, w1⟩ := DataW.trod_int Tryz.underlying24 g1
      obtain ⟨a, k, c, l, rfl, hI⟩ := ivs_open g2
      obtain ⟨n0, rfl, l0⟩ := u64_wf w0
      obtain ⟨n1, rfl, l1⟩ := u64_wf w1
      simp only [List.cons.injEq, and_true] at e0 e1
      rw [e0] at h1
      rw [e1] at h2
      exact ⟨(n0, n1, l), h1, h2, ⟨l0, l1, hI.lt⟩, a, k, c, h3, hI⟩
    obtain ⟨f, hf⟩ := Deep.choose_lt each
    have hmc : m = cap := by simpa using hmm
    refine ⟨some ad, len, cap, (List.range len).map f, rfl, by simp, ?_, hl, by unfold maxLen at hm; omega, (by intro h; cases h), fun hn => ?_⟩
    · intro s hs
      obtain ⟨i, hi, rfl⟩ := List.mem_map.1 hs
      have hi' : i < len := List.mem_range.1 hi
      exact (hf i (by omega)).2.2.1
    · obtain ⟨b, o, k⟩ := ad
      obtain rfl : k = none := addr_plain (hf 0 (by omega)).1
      refine ⟨b, o, rfl, fun i hi => ?_⟩
      obtain ⟨h1, h2, -, x, k, c, h3, h4⟩ := hf i (by omega)
      rw [add_at] at h1 h2 h3
      have e : nthE ((List.range len).map f) i = f i := by rw [nthE_get (by simpa using hi)]; simp
      rw [e, Nat.add_assoc, Nat.add_assoc]
      exact ⟨h1, h2, x, k, c, h3, h4⟩

end

end Go.Proofs.YtkkdlgcfcbaibaaGreatDoor
end

section
namespace Go.Proofs.YtkkdlgcfcbaibaaGreatDoor
open Go.ChangeShapes Go.WideShapes Go.RowKit
set_option linter.unusedVariables false

section
variable {H : Type} {enc : TypeId × Value → H} {W : World} {fuel : Nat} {x : DataW H × List MemPlace}

/-- A slice of elements of one cell, opened at every index. -/
theorem open_slice_one {P : Program} {base : Nat} {spare : Nat → Bool} {held : Bool} {t e : TypeId} {cs : List Value} (ht : P.underlying t = some (.slice e)) (ce : P.cellsOf e = 1)
    (h : DataW.trod enc P W base spare held fuel t cs = some x) :
    cs = [.slice none 0 0] ∨ ∃ (a : Addr) (len cap m n : Nat), cs = [.slice (some a) len cap] ∧ len ≤ cap ∧ cap ≤ maxLen ∧ m = (if spare a.block then cap else len) ∧
      ∀ i, i < m → ∃ v0 y0, W.cell? (a.add (i * 1)) = some v0 ∧ DataW.trod enc P W base spare held n e [v0] = some y0 := by
  rcases Deep.open_slice ht h with ⟨h0, -⟩ | ⟨a, len, cap, m, n, D, Pl, rfl, hb, hl, hm, hmm, rfl, hx⟩
  · exact Or.inl h0
  right
  refine ⟨a, len, cap, m, n, rfl, hl, hm, hmm, fun i hi => ?_⟩
  obtain ⟨cs', h1, h2⟩ := hx i hi
  rw [ce] at h1
  obtain ⟨_, hlen, hcell⟩ := World.cells?_some h1
  match cs', hlen with
  | [v0], _ =>
    have := hcell 0 (by simp)
    rw [Deep.add_add] at this
    exact ⟨v0, _, by simpa using this, h2⟩

/-- A list of vectors that came in. -/
theorem vecs_open {v : Value} (h : DataW.trod enc Tryz.prog W 0 (fun _ => true) true fuel 35 [v] = some x) : ∃ a n c l, v = .slice a n c ∧ Vecs W a n c l := by
  rcases open_slice_one Tryz.underlying35 (by kernel_rfl) h with hcs | ⟨ad, len, cap, m, n, hcs, hl, hm, hmm, hc⟩
  · simp at hcs
    subst hcs
    exact ⟨none, 0, 0, [], rfl, rfl, Nat.le_refl _, by omega, fun _ => rfl, fun h => by omega⟩
  · simp at hcs
    subst hcs
    have each : ∀ i, i < m → ∃ f : Vec, EnCell W (ad.add (i * 1)) f := by
      intro i hi
      obtain ⟨v0, y0, h1, h2⟩ := hc i hi
      obtain ⟨a, k, c, l, e0, hE⟩ := ents_open h2
      rw [e0] at h1
      exact ⟨l, a, k, c, h1, hE⟩
    obtain ⟨f, hf⟩ := Deep.choose_lt each
    have hmc : m = cap := by simpa using hmm
    refine ⟨some ad, len, cap, (List.range len).map f, rfl, by simp, hl, by unfold maxLen at hm; omega, (by intro h; cases h), fun hn => ?_⟩
    obtain ⟨b, o, k⟩ := ad
    obtain rfl : k = none := by
      obtain ⟨_, _, _, h1, _⟩ := hf 0 (by omega)
      exact addr_plain h1
    refine ⟨b, o, rfl, fun i hi => ?_⟩
    have h1 := hf i (by omega)
    rw [add_at, Nat.mul_one] at h1
    have e : nthV ((List.range len).map f) i = f i := by rw [nthV_get (by simpa using hi)]; simp
    rw [e]
    exact h1

theorem i64_wf {z : Int} (h : (Lit.int .i64 z).wf = true) : -9223372036854775808 ≤ z ∧ z ≤ 9223372036854775807 := by
  simp [Lit.wf, IntKind.min, IntKind.max, IntKind.bits, IntKind.signed] at h
  omega

/-- A list of ints that came in. -/
theorem zs_open {v : Value} (h : DataW.trod enc Tryz.prog W 0 (fun _ => true) true fuel 29 [v] = some x) : ∃ a n c l, v = .slice a n c ∧ Zs W a n c l := by
  rcases open_slice_one Tryz.underlying29 (by kernel_rfl) h with hcs | ⟨ad, len, cap, m, n, hcs, hl, hm, hmm, hc⟩
  · simp at hcs
    subst hcs
    exact ⟨none, 0, 0, [], rfl, rfl, Nat.le_refl _, by omega, fun _ => rfl, (fun x hx => by cases hx), fun h => by omega⟩
  · simp at hcs
    subst hcs
    have each : ∀ i, i < m → ∃ z : Int, W.cell? (ad.add (i * 1)) = some (.int .i64 z) ∧ -9223372036854775808 ≤ z ∧ z ≤ 9223372036854775807 := by
      intro i hi
      obtain ⟨v0, y0, h1, h2⟩ := hc i hi
      obtain ⟨z0, e0, _, w0⟩ := DataW.trod_int Tryz.underlying3 h2
      simp only [List.cons.injEq, and_true] at e0
      rw [e0] at h1
      exact ⟨z0, h1, i64_wf w0⟩
    obtain ⟨f, hf⟩ := Deep.choose_lt each
    have hmc : m = cap := by simpa using hmm
    refine ⟨some ad, len, cap, (List.range len).map f, rfl, by simp, hl, by unfold maxLen at hm; omega, (by intro h; cases h), ?_, fun hn => ?_⟩
    · intro x hx
      obtain ⟨i, hi, rfl⟩ := List.mem_map.1 hx
      have hi' : i < len := List.mem_range.1 hi
      exact (hf i (by omega)).2
    · obtain ⟨b, o, k⟩ := ad
      obtain rfl : k = none := addr_plain (hf 0 (by omega)).1
      refine ⟨b, o, rfl, fun i hi => ?_⟩
      have h1 := (hf i (by omega)).1
      rw [add_at, Nat.mul_one] at h1
      have e : nthZ ((List.range len).map f) i = f i := by rw [nthZ_get (by simpa using hi)]; simp
      rw [e]
      exact h1
end

end Go.Proofs.YtkkdlgcfcbaibaaGreatDoor
end
