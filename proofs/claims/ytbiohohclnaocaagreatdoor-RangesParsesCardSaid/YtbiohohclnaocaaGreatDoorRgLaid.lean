/-
  What the rows' list gives: a world that is ready; a world that holds the list.
-/
import Derived.Test.YtbiohohclnaocaaGreatDoorRows
import Derived.Test.YtbiohohclnaocaaGreatDoorRgAlive
import Derived.ChangeSame
import Derived.ChangeVars
import Derived.JoinedOf
import Derived.RowKit
import Derived.RowKitTokens
import Derived.LaidLaws
import Derived.LaidHandle
import Derived.LaidSub
import Derived.LaidMore
import Derived.Lay
import Derived.HandedShaped
import Derived.Deep.DeepLaidRun
import Derived.Lib.LaidTab
import Derived.Stop.LaidErr
import Derived.Stop.Joined
import Derived.Deep.SlicePairs
import Derived.ProofKit
import Derived.OpenShut
import Derived.Below
namespace Go.Proofs.YtbiohohclnaocaaGreatDoor
open Go.ChangeShapes Go.WideShapes Go.RowKit
set_option linter.unusedVariables false

abbrev LL : List (String × DataW Unit) := Rows.rangesFindsRow.laid

theorem Lay.own : ownKnob Tryz.prog.godebug = none := by kernel_rfl
theorem Lay.et : Tryz.prog.globalNamed "errors.errorType" = some 0 := by kernel_rfl
theorem Lay.rt : (Tryz.prog.cutTypes.find? (·.1 == "internal/reflectlite.rtype")).map (·.2) = some 135 := by kernel_rfl
theorem Lay.oneRow : ((List.range 230).filter fun t => Tryz.prog.rowNamed t [101, 114, 114, 111, 114]) = [33] := by kernel_rfl
theorem Lay.size : Tryz.prog.types.size = 230 := by kernel_rfl

theorem door_of_handles {W : World} (h' : handlesMet Tryz.prog [("errors.errorType", Rows.laid_errors_errorType)] W) : Door W := by
  obtain ⟨name, u, ty, e1, e2, e3, e4, e5⟩ := h' _ (List.mem_singleton.2 rfl)
  have en : name = [101, 114, 114, 111, 114] := (Option.some.inj e1).symm
  subst en
  obtain rfl := Option.some.inj (Lay.rt.symm.trans e2)
  have hm : ty ∈ (List.range 230).filter fun t => Tryz.prog.rowNamed t [101, 114, 114, 111, 114] := List.mem_filter.2 ⟨List.mem_range.2 (by rw [← Lay.size]; exact e3), e4⟩
  rw [Lay.oneRow] at hm
  obtain rfl := List.mem_singleton.1 hm
  have hh : typeHandle Tryz.prog 33 = .pointer (some ⟨9, 33, none⟩) := by kernel_rfl
  rw [hh] at e5
  have := World.var?_cell Lay.et e5 0
  unfold Door
  simpa using this

theorem LL_parts {W : World} (h : laidMetH Tryz.prog LL W) : laidMet Tryz.prog (LL.filter fun x => x.2.handleName?.isNone) W ∧ handlesMet Tryz.prog [("errors.errorType", Rows.laid_errors_errorType)] W := h

theorem Lay.tens : (LL.filter fun x => x.2.handleName?.isNone).filter (fun x => x.1 == "internal/strconv.uint64pow10") = [("internal/strconv.uint64pow10", Lib.tabData .u64 Lib.pow10Tab)] := by rfl
theorem Lay.rang : (LL.filter fun x => x.2.handleName?.isNone).filter (fun x => x.1 == "strconv.ErrRange") = [("strconv.ErrRange", Rows.laid_strconv_ErrRange)] := by rfl

theorem tens_of_laid {W : World} (h : laidMet Tryz.prog (LL.filter fun x => x.2.handleName?.isNone) W) : Tens W := by
  have h1 := h.filter (fun x => x.1 == "internal/strconv.uint64pow10")
  rw [Lay.tens] at h1
  exact Lib.tabIs_of_head (g := 2) (t := 180) (e := 24) (n := 20) (by kernel_rfl) (by kernel_rfl) Tryz.underlying180 Tryz.underlying24 (by kernel_rfl) (by kernel_rfl) h1

theorem Lay.star : "*errors.errorString" = "*" ++ "errors.errorString" := by decide
theorem Lay.esRow (u : TypeId) (h : Tryz.prog.typeName? 3 u = some "*errors.errorString") : u = 196 :=
  typeName_ptr_named (nm := "errors.errorString") (by rw [← Lay.star]; kernel_rfl) (by kernel_rfl) (by decide) u (by rw [← Lay.star]; exact h)

theorem rang_of_laid {W : World} (h : laidMet Tryz.prog (LL.filter fun x => x.2.handleName?.isNone) W) : RangeE W := by
  have h1 := h.filter (fun x => x.1 == "strconv.ErrRange")
  rw [Lay.rang] at h1
  obtain ⟨a, s, hv, -, -, -⟩ := laid_sentinel h1 (g := 4) (ti := 33) (by kernel_rfl) (by kernel_rfl) Tryz.underlying33 Lay.esRow Tryz.underlying196 Tryz.underlying198 rfl rfl Tryz.underlying9 (by kernel_rfl) (by kernel_rfl)
  have hg : Tryz.prog.globalNamed "strconv.ErrRange" = some 4 := by kernel_rfl
  have := World.var?_cell hg hv 0
  exact ⟨_, _, by simpa using this⟩

theorem ready_of_laid {W : World} (h : laidMetH Tryz.prog LL W) (hs : W.ShapedOpen Tryz.prog) : Ready W := by
  obtain ⟨h1, h2⟩ := LL_parts h
  exact ⟨door_of_handles h2, tens_of_laid h1, Tryz.laysM144.s1_3 W hs, rang_of_laid h1⟩

noncomputable def laidWorld (os : Os) : World := (World.doorLaid Tryz.prog 79 os).layVars Tryz.prog [("unicode/utf8.first", Rows.laid_unicode_utf8_first)]
theorem laidWorld_met (os : Os) (args : Array Value) : laidMetH Tryz.prog LL ((laidWorld os).forCall (fun _ _ => 0) ⟨#[], args, []⟩).memory :=
  laidMetH_of_parts (laidMet_of_run3 8 (by kernel_rfl) (by kernel_rfl) (by kernel_rfl)) (by kernel_rfl)

/-- The wrap of a row with a condition on its world, the world's shape kept. -/
theorem handed_and_shaped {H : Type} {enc : TypeId × Value → H} {a : Assume} {C : Checked} {os : Os} {f : FuncId} {fn : Func} {s : ChangeSpec} {conds : List PathCond} {apart fresh handsOn again : Bool} {X : World → Array Value → Prop}
    (hX : ∀ (w w' : World) (args : Array Value), w.heap = w'.heap → X w args → X w' args)
    (own : ownKnob C.prog.godebug = none) (started : os.Started) (noInit : C.prog.inits.idxOf? f = none) (hfn : C.prog.funcs[f]? = some fn)
    (witness : ∃ (w : World) (tape : Tape) (i : Input), w.os = os ∧ (w.forCall tape i).Shaped C.prog ∧ i.vars = [] ∧ Input.okWide C.prog (w.forCall tape i) .any w.heap.size f i ∧
      ((s.pre enc C.prog fn conds apart (w.forCall tape i).memory i.args ∧ X (w.forCall tape i).memory i.args) ∧ sizedMet enc C.prog fn (OpenSpec.ofChange s) apart (w.forCall tape i).memory i.args) ∧ a.holds C.prog (lone (Frame.enter C.prog f i.args .normal) [] (w.forCall tape i)))
    (contract : ∀ (W : World) (base : Nat) (args : Array Value) (ds gs : List (DataW H)) (before : List MemPlace),
      (∀ (j : Nat) t v, fn.params[j]? = some t → args[j]? = some v → Value.okWide C.prog W .any base t v) →
      DataW.Whole enc C.prog fn.params.toList s.vars apart W args.toList ds gs before →
      conds.all (PathCond.test C.prog ⟨fn.params.toList, ds, s.plain.varTypes C.prog, gs⟩) = true →
      (DataW.weightsEach C.prog (fn.params.toList ++ s.plain.varTypes C.prog) (ds ++ gs)).all (· ≤ reachBytes) = true → X W args → W.ShapedOpen C.prog →
      a.holds C.prog (lone (Frame.enter C.prog f args .normal) [] W) →
      Calls C.prog f args W fun e W' => ∃ v, e = .returned v ∧ s.post enc C.prog fn apart fresh handsOn again W args v W') :
    ReturnsInHanded a C os f .any (fun w args => (s.pre enc C.prog fn conds apart w args ∧ X w args) ∧ sizedMet enc C.prog fn (OpenSpec.ofChange s) apart w args) (s.post enc C.prog fn apart fresh handsOn again) := by
  refine returnsInHanded_of_calls own started noInit witness ?_
  intro w tape i _ hsh _ hok hpre hholds
  obtain ⟨_, _, _, fn', hfn', _, _, _, _, hval⟩ := hok
  have e : fn' = fn := Option.some.inj (hfn'.symm.trans hfn)
  subst e
  obtain ⟨⟨⟨ds, gs, before, hw, hc⟩, hx⟩, hz⟩ := hpre
  have hw' := DataW.Whole.of_heap (w' := w.forCall tape i) (by rfl) hw
  refine (contract (w.forCall tape i) w.heap.size i.args ds gs before hval hw' hc (hz.weights hw) (hX _ _ _ (by rfl) hx) hsh hholds).mono fun e W' ⟨v, he, hp⟩ => ?_
  subst he
  exact ChangeSpec.post_blind hp

theorem laidWorld_os (os : Os) : (laidWorld os).os = os := (World.layVars_os _ _ _).trans rfl
theorem laidWorld_shaped (os : Os) (args : Array Value) : ((laidWorld os).forCall (fun _ _ => 0) ⟨#[], args, []⟩).Shaped Tryz.prog := World.shaped_of_ZipB (by kernel_rfl) (by kernel_rfl)

theorem u64_wf {z : Int} (h : (Lit.int .u64 z).wf = true) : ∃ n : Nat, z = n ∧ n < 18446744073709551616 := by
  have h' : 0 ≤ z ∧ z ≤ 18446744073709551615 := by
    simp [Lit.wf, IntKind.min, IntKind.max, IntKind.bits, IntKind.signed] at h
    omega
  exact ⟨z.toNat, by omega, by omega⟩

theorem addr_plain {w : World} {b o : Nat} {k : Option Nat} {v : Value} (h : w.cell? ((⟨b, o, k⟩ : Addr).add (0 * 2)) = some v) : k = none := by
  cases k with
  | none => rfl
  | some j =>
    have hx : ((⟨b, o, some j⟩ : Addr).add (0 * 2)) = ⟨b, o, some j⟩ := rfl
    rw [hx] at h
    unfold World.cell? at h
    split at h <;> simp at h

/-- A slice of intervals that came in. -/
theorem ivs_open {H : Type} {enc : TypeId × Value → H} {W : World} {fuel : Nat} {a : Option Addr} {len cap : Nat} {x : DataW H × List MemPlace} (h : DataW.trod enc Tryz.prog W 0 (fun _ => true) true fuel 23 [.slice a len cap] = some x) : ∃ l, Ivs W a len cap l := by
  rcases Deep.open_slice_pairs Tryz.underlying23 Tryz.underlying31 (by kernel_rfl) rfl rfl (by kernel_rfl) (by kernel_rfl) h with ⟨hcs, _⟩ | ⟨ad, len', cap', m, n, V0, V1, D0, D1, P0, P1, hcs, hb, hl, hm, hmm, hx, hc⟩
  · simp at hcs
    obtain ⟨rfl, rfl, rfl⟩ := hcs
    exact ⟨[], rfl, by simp, Nat.le_refl _, by omega, fun _ => rfl, fun h => by omega⟩
  · simp at hcs
    obtain ⟨rfl, rfl, rfl⟩ := hcs
    have each : ∀ i, i < m → ∃ s : Iv, W.cell? (ad.add (i * 2)) = some (.int .u64 ((s.1 : Nat) : Int)) ∧ W.cell? (ad.add (i * 2 + 1)) = some (.int .u64 ((s.2 : Nat) : Int)) ∧ s.1 < 18446744073709551616 ∧ s.2 < 18446744073709551616 := by
      intro i hi
      obtain ⟨h1, h2, h3, h4⟩ := hc i hi
      obtain ⟨z0, e0, _, w0⟩ := DataW.trod_int Tryz.underlying24 h3
      obtain ⟨z1, e1, _, w1⟩ := DataW.trod_int Tryz.underlying24 h4
      obtain ⟨n0, rfl, l0⟩ := u64_wf w0
      obtain ⟨n1, rfl, l1⟩ := u64_wf w1
      simp only [List.cons.injEq, and_true] at e0 e1
      rw [e0] at h1
      rw [e1] at h2
      exact ⟨(n0, n1), h1, h2, l0, l1⟩
    obtain ⟨f, hf⟩ : ∃ f : Nat → Iv, ∀ i, i < m → W.cell? (ad.add (i * 2)) = some (.int .u64 (((f i).1 : Nat) : Int)) ∧ W.cell? (ad.add (i * 2 + 1)) = some (.int .u64 (((f i).2 : Nat) : Int)) ∧ (f i).1 < 18446744073709551616 ∧ (f i).2 < 18446744073709551616 := by
      refine ⟨fun i => if hi : i < m then Classical.choose (each i hi) else (0, 0), fun i hi => ?_⟩
      simp only [dif_pos hi]
      exact Classical.choose_spec (each i hi)
    have hmc : m = cap := by simpa using hmm
    have hmx : cap ≤ 9223372036854775807 := by unfold maxLen at hm; omega
    refine ⟨(List.range len).map f, by simp, ?_, hl, hmx, (by intro h; cases h), fun hn => ?_⟩
    · intro s hs
      obtain ⟨i, hi, rfl⟩ := List.mem_map.1 hs
      have hi' : i < len := List.mem_range.1 hi
      exact (hf i (by omega)).2.2
    · obtain ⟨b, o, k⟩ := ad
      have hk : k = none := addr_plain (hf 0 (by omega)).1
      subst hk
      refine ⟨b, o, rfl, fun i hi => ?_⟩
      obtain ⟨h1, h2, _, _⟩ := hf i (by omega)
      rw [add_at] at h1 h2
      have e : nthI ((List.range len).map f) i = f i := by rw [nthI_get (by simpa using hi)]; simp
      rw [e, Nat.add_assoc]
      exact ⟨h1, h2⟩

end Go.Proofs.YtbiohohclnaocaaGreatDoor
