/-
  The statement CanonDenotes: the walk of the law joined to its row. Conditions: none beyond the row's own.
-/
import Derived.Test.YtlkchfhcfccaoaaGreatDoorRows
import Derived.Test.YtlkchfhcfccaoaaGreatDoorCards
import Derived.Test.YtlkchfhcfccaoaaGreatDoorTie
import Derived.SevenTiedAt
import Derived.WalkKit
import Derived.ProofKit
import Derived.OpenShut
import Derived.ShutString
import Derived.ChangeOld
import Derived.Below
import Derived.Test.YtlkchfhcfccaoaaGreatDoorPt51
import Derived.Test.YtlkchfhcfccaoaaGreatDoorPt52
namespace Go.Proofs.YtlkchfhcfccaoaaGreatDoor.canonDenotes
open Go.ChangeShapes Go.WideShapes Go.ChangeAt Go.RowKit
open Go.ChangeMaps (open_string shut_string)
set_option linter.unusedVariables false

theorem own : ownKnob Tryz.prog.godebug = none := by kernel_rfl
theorem laidOut : laidOutB Tryz.prog = true := by kernel_rfl

set_option maxRecDepth 100000 in
/-- Three numbers that came in as a struct. -/
theorem vers_open {H : Type} {enc : TypeId × Value → H} {W : World} {fuel : Nat} {v : Value} {x : DataW H × List MemPlace} (hv : ∃ cs, v = .agg cs ∧ cs.size = Tryz.prog.cellsOf 45)
    (h : DataW.trod enc Tryz.prog W 0 (fun _ => true) true fuel 45 v.cells.toList = some x) : ∃ a b c : Nat, v = .agg #[.int .u64 a, .int .u64 b, .int .u64 c] := by
  obtain ⟨cs, rfl, hs⟩ := hv
  have h3 : Tryz.prog.cellsOf 45 = 3 := by kernel_rfl
  have h1 : Tryz.prog.cellsOf 43 = 1 := by kernel_rfl
  rw [h3] at hs
  obtain ⟨l⟩ := cs
  have hs' : l.length = 3 := hs
  have h' : DataW.trod enc Tryz.prog W 0 (fun _ => true) true fuel 45 l = some x := h
  obtain ⟨xs, n, -, -, -, hxl, hf⟩ := DataW.trod_struct Tryz.underlying45 h'
  match xs, hxl, l, hs' with
  | [y0, y1, y2], _, [v0, v1, v2], _ =>
    have g0 := hf 0 _ rfl
    have g1 := hf 1 _ rfl
    have g2 := hf 2 _ rfl
    simp [h1] at g0 g1 g2
    obtain ⟨z0, e0, _, w0⟩ := DataW.trod_int Tryz.underlying43 g0
    obtain ⟨z1, e1, _, w1⟩ := DataW.trod_int Tryz.underlying43 g1
    obtain ⟨z2, e2, _, w2⟩ := DataW.trod_int Tryz.underlying43 g2
    obtain ⟨n0, rfl, -⟩ := u64_wf w0
    obtain ⟨n1, rfl, -⟩ := u64_wf w1
    obtain ⟨n2, rfl, -⟩ := u64_wf w2
    simp only [List.cons.injEq, and_true] at e0 e1 e2
    subst e0 e1 e2
    exact ⟨n0, n1, n2, rfl⟩

set_option maxRecDepth 100000 in
theorem lifted (os : Os) (started : os.Started) (H : Type) (enc : TypeId × Value → H) :
    ReturnsInHanded {} Tryz.checked os 6 .any (fun w args => (Rows.canonDenotesSpec.pre enc Tryz.prog Tryz.f6 [] false w args ∧ laidMetH Tryz.prog Rows.canonDenotesRow.laid w) ∧ sizedMet enc Tryz.prog Tryz.f6 (OpenSpec.ofChange Rows.canonDenotesSpec) false w args) (Rows.canonDenotesSpec.post enc Tryz.prog Tryz.f6 false true false false) := by
  refine handed_and_shaped (C := Tryz.checked) (X := fun w _ => laidMetH Tryz.prog Rows.canonDenotesRow.laid w) (fun _ _ _ hh h => h.of_heap hh) own started (by kernel_rfl) Tryz.func6
    (ChangeSpec.witness_shaped (enc := enc) (C := Tryz.checked) (os := os) (X := fun w _ => laidMetH Tryz.prog Rows.canonDenotesRow.laid w) false (laidWorld os) #[.slice none 0 0, .agg #[.int .u64 0, .int .u64 0, .int .u64 0]] 8 (laidWorld_os os) (laidWorld_shaped os _) (by kernel_rfl) (by kernel_rfl) (by kernel_rfl) (laidWorld_met os _)) ?_
  intro W base args ds gs before hval0 hW _ _ hL hsh _
  have hval : ∀ (j : Nat) t v, Tryz.f6.params[j]? = some t → args[j]? = some v → Value.okWide Tryz.prog W .any base t v := hval0
  have hW' := hW
  obtain ⟨p, q, hA0, hV, rfl, hfz, hnd⟩ := hW
  have hA : DataW.TrodAll enc Tryz.prog W 0 (fun _ => true) true Tryz.f6.params.toList args.toList ds p := hA0
  rw [Tryz.params6] at hA hval
  obtain ⟨v0, vs0, d0, ds0, p0, q0, hargs, rfl, rfl, h0, r0⟩ := trodAll_cons hA
  obtain ⟨v1, vs1, d1, ds1, p1, q1, rfl, rfl, rfl, h1, r1⟩ := trodAll_cons r0
  obtain ⟨rfl, rfl, rfl⟩ := trodAll_nil r1
  obtain rfl : args = #[v0, v1] := by cases args; simp_all
  obtain ⟨rfl, rfl⟩ := trodVars_none hV
  have k0 := h0
  have lt0 : ∀ x ∈ p0, x.block < W.heap.size := by obtain ⟨m, hm⟩ := k0; exact DataW.trod_lt m _ _ _ hm
  obtain ⟨a0, n0, cap0, rfl⟩ := okWide_slice Tryz.underlying23 (hval 0 23 v0 rfl rfl)
  obtain ⟨kno0, w0⟩ : ∃ k, Frags W a0 n0 cap0 k := by
    obtain ⟨fuel, hf⟩ := h0
    obtain ⟨a, n, c, k, e, hk⟩ := frags_open hf
    cases e
    exact ⟨k, hk⟩
  have k1 := h1
  have lt1 : ∀ x ∈ p1, x.block < W.heap.size := by obtain ⟨m, hm⟩ := k1; exact DataW.trod_lt m _ _ _ hm
  obtain ⟨x1, y1, z1, rfl⟩ : ∃ a b c : Nat, v1 = .agg #[.int .u64 a, .int .u64 b, .int .u64 c] := by
    obtain ⟨fuel, hf⟩ := h1
    exact vers_open (okWide_struct Tryz.underlying45 (hval 1 45 v1 rfl rfl)) hf
  have hR := ready_of_laid hL hsh
  refine (walkCanonDenotes _ _ _ _ _ _ _ W w0 hR).mono fun e W' ⟨he, bel⟩ => ?_
  subst he
  exact ⟨_, rfl, _, _, _, [], _, [], hW', trodAll_mk1 (shut_bool Tryz.underlying4 _), (trodAll_cons_mk (Below.trod laidOut (by kernel_rfl) (of_decide_eq_true (by kernel_rfl)) k0 bel lt0) (trodAll_cons_mk (Below.trod laidOut (by kernel_rfl) (of_decide_eq_true (by kernel_rfl)) k1 bel lt1) trodAll_mk0)), rfl, bel.frame _, fun h => by cases h⟩

theorem over : Rows.canonDenotesRow.holds Tryz.pinned (OpenSpec.ofChange Rows.canonDenotesSpec) :=
  OpenClaim.holds_of_wide 6 Tryz.f6 rfl rfl rfl rfl rfl rfl rfl ⟨rfl, rfl, rfl, rfl, rfl⟩ rfl rfl rfl rfl rfl (by kernel_rfl) Tryz.func6 (by kernel_rfl)
    (of_decide_eq_true (by kernel_rfl)) (by unfold Func.isWrapper; first | (rw [if_pos (by decide +kernel)]; kernel_rfl) | (rw [if_neg (by decide +kernel)]; exact ⟨rfl, rfl⟩))
    (fun os started H enc _ => lifted os started H enc)

theorem proved : Rows.CanonDenotesSaid := over

theorem card : Rows.CanonDenotesCardSaid :=
  Claim7.holds_tied_plain_at .later [] _ _ _ _ proved (fun _ h => by cases h) (by kernel_rfl) (fun _ h => by cases h) canonDenotes_row_tie rfl ⟨rfl, rfl⟩ (by kernel_rfl) rfl
    (fun f fn hf hfn => by
      obtain rfl : f = 6 := Option.some.inj ((show Tryz.prog.funcNamed "kenning/kenninglaw13.CanonDenotes" = some 6 by kernel_rfl).symm.trans hf) |>.symm
      obtain rfl : fn = Tryz.f6 := (Option.some.inj (Tryz.func6.symm.trans hfn)).symm
      exact ⟨by kernel_rfl, fun j t ht => by
        rw [Tryz.params6] at ht
        have hm := Array.mem_of_getElem? ht
        simp at hm
        rcases hm with rfl | rfl
        · exact (show Tryz.prog.wantsStandIn 23 = false by kernel_rfl)
        · exact (show Tryz.prog.wantsStandIn 45 = false by kernel_rfl)⟩)
    (by kernel_rfl)
end Go.Proofs.YtlkchfhcfccaoaaGreatDoor.canonDenotes
