/-
  NARROWER THAN 'FOR EVERY INPUT', by the rows' own cells (each row's printed sentence says how): CanonMatches: laid · CanonOrder: laid · CanonChecks: laid · CanonDenotes: laid · CanonSegments: laid · CanonBuilds: laid.
  DERIVED. THE GIVEN ROWS OF THIS SEAT. 6 by the template 'for every input the law returns true; each argument reads behind the call as it read before'; 0 by the template 'total and deterministic' (their statements: YtlkchfhcfccaoaaGreatDoorTotals.lean).
  GIVEN WITH THE SEED: the statements are not yours to turn. If you find one false, say at which input.
  Laid BY PROGRAM, IN A SANDBOX (cutbox-rows.mjs): the forced cells as the released guide's own fill.sh prints them over the translation 81e4e36193bc9fb9… (all of the seat's roots in one cut). By AI agents, Wed Nov 11 2026. No macro, syntax, notation, axiom, sorry.
-/
import Derived.Test.YtlkchfhcfccaoaaGreatDoorChecked
import GoSem.Claim
import GoSem.ClaimJoined
import GoSem.ClaimMapViews
import Derived.JoinedTies
import Derived.KernelRfl
namespace Go.Proofs.YtlkchfhcfccaoaaGreatDoor
/- THE CELL 'sum', in the pinned program and in every row, IS THE sha256 OF THE DUMP (.gsa) THAT YtlkchfhcfccaoaaGreatDoorProg.lean LOADS. Nothing in Lean hashes anything: it is a label: what it is worth is what the hold of that sum in a sandbox is worth. -/
noncomputable def Tryz.pinned : Pinned := { name := "ytlkchfhcfccaoaagreatdoor", sum := "81e4e36193bc9fb90b73562eecda758b4fd93342fe483d2d50da26661db86306", checked := Tryz.checked }
namespace Rows
def none {H : Type} : Left H := { results := [], args := [] }

/- WHAT THE LISTED PACKAGE-LEVEL VARIABLES READ AS WHEN THE CALL BEGINS. Each datum BY PROGRAM (the guide's laid-datum.mjs) off the statement by which the dump's own 'gosem.cut.vars' lays the variable. In a bare row this is a premise. The card (YtlkchfhcfccaoaaGreatDoorCards.lean) ties it to the program's text. -/
def laid_errors_errorType {H : Type} : DataW H := .iface "internal/reflectlite.rtype" (.agg [.ptr (.lit (.string [101, 114, 114, 111, 114]))])
def laid_kenning_canon_codes {H : Type} : DataW H := .agg [.lit (.int .i64 9), .lit (.int .i64 10), .lit (.int .i64 10), .lit (.int .i64 3)]

/-- 'kenninglaw13.CanonMatches': WHATEVER THE INPUT: true; the input reads as it did. -/
def canonMatchesSpec : ChangeSpec := { name := "canonMatches", fn := fun _ => fun
  | [d] => { results := [.lit (.bool true)], args := [d] }
  | _ => none }
def canonMatchesRow : OpenClaim := { program := "ytlkchfhcfccaoaagreatdoor", sum := "81e4e36193bc9fb90b73562eecda758b4fd93342fe483d2d50da26661db86306", func := "kenning/kenninglaw13.CanonMatches", spec := "canonMatches", inPlace := ["slices.overlaps[uint64]", "slices.overlaps[kenning/api.Fragment]", "internal/reflectlite.ValueOf", "(internal/reflectlite.Value).Type", "(internal/reflectlite.Value).IsNil", "internal/reflectlite.TypeOf", "(internal/reflectlite.Value).Elem", "(internal/reflectlite.Value).Set"], unfollowed := true, recurses := true, named := ["kenning/canon.codes", "errors.errorType"], apart := false, laid := [("errors.errorType", laid_errors_errorType), ("kenning/canon.codes", laid_kenning_canon_codes)] }
def CanonMatchesSaid : Prop := canonMatchesRow.holds Tryz.pinned (OpenSpec.ofChange canonMatchesSpec)

/-- ITS FALSE NEIGHBOUR: 'it returns false'. Refute it at one input. -/
def canonMatchesWrong : ChangeSpec := { name := "canonMatches", fn := fun _ => fun
  | [d] => { results := [.lit (.bool false)], args := [d] }
  | _ => none }
def CanonMatchesWrongFalsely : Prop := canonMatchesRow.holds Tryz.pinned (OpenSpec.ofChange canonMatchesWrong)

/-- 'kenninglaw13.CanonOrder': WHATEVER THE INPUT: true; the input reads as it did. -/
def canonOrderSpec : ChangeSpec := { name := "canonOrder", fn := fun _ => fun
  | [d1, d2] => { results := [.lit (.bool true)], args := [d1, d2] }
  | _ => none }
def canonOrderRow : OpenClaim := { program := "ytlkchfhcfccaoaagreatdoor", sum := "81e4e36193bc9fb90b73562eecda758b4fd93342fe483d2d50da26661db86306", func := "kenning/kenninglaw13.CanonOrder", spec := "canonOrder", inPlace := ["slices.overlaps[uint64]", "slices.overlaps[kenning/api.Fragment]", "internal/reflectlite.ValueOf", "(internal/reflectlite.Value).Type", "(internal/reflectlite.Value).IsNil", "internal/reflectlite.TypeOf", "(internal/reflectlite.Value).Elem", "(internal/reflectlite.Value).Set"], unfollowed := true, recurses := true, named := ["kenning/canon.codes", "errors.errorType"], apart := false, laid := [("errors.errorType", laid_errors_errorType), ("kenning/canon.codes", laid_kenning_canon_codes)] }
def CanonOrderSaid : Prop := canonOrderRow.holds Tryz.pinned (OpenSpec.ofChange canonOrderSpec)

/-- ITS FALSE NEIGHBOUR: 'it returns false'. Refute it at one input. -/
def canonOrderWrong : ChangeSpec := { name := "canonOrder", fn := fun _ => fun
  | [d1, d2] => { results := [.lit (.bool false)], args := [d1, d2] }
  | _ => none }
def CanonOrderWrongFalsely : Prop := canonOrderRow.holds Tryz.pinned (OpenSpec.ofChange canonOrderWrong)

/-- 'kenninglaw13.CanonChecks': WHATEVER THE INPUT: true; the input reads as it did. -/
def canonChecksSpec : ChangeSpec := { name := "canonChecks", fn := fun _ => fun
  | [d] => { results := [.lit (.bool true)], args := [d] }
  | _ => none }
def canonChecksRow : OpenClaim := { program := "ytlkchfhcfccaoaagreatdoor", sum := "81e4e36193bc9fb90b73562eecda758b4fd93342fe483d2d50da26661db86306", func := "kenning/kenninglaw13.CanonChecks", spec := "canonChecks", inPlace := ["slices.overlaps[uint64]", "slices.overlaps[kenning/api.Fragment]", "internal/reflectlite.ValueOf", "(internal/reflectlite.Value).Type", "(internal/reflectlite.Value).IsNil", "internal/reflectlite.TypeOf", "(internal/reflectlite.Value).Elem", "(internal/reflectlite.Value).Set"], unfollowed := true, recurses := true, named := ["kenning/canon.codes", "errors.errorType"], apart := false, laid := [("errors.errorType", laid_errors_errorType), ("kenning/canon.codes", laid_kenning_canon_codes)] }
def CanonChecksSaid : Prop := canonChecksRow.holds Tryz.pinned (OpenSpec.ofChange canonChecksSpec)

/-- ITS FALSE NEIGHBOUR: 'it returns false'. Refute it at one input. -/
def canonChecksWrong : ChangeSpec := { name := "canonChecks", fn := fun _ => fun
  | [d] => { results := [.lit (.bool false)], args := [d] }
  | _ => none }
def CanonChecksWrongFalsely : Prop := canonChecksRow.holds Tryz.pinned (OpenSpec.ofChange canonChecksWrong)

/-- 'kenninglaw13.CanonDenotes': WHATEVER THE INPUT: true; the input reads as it did. -/
def canonDenotesSpec : ChangeSpec := { name := "canonDenotes", fn := fun _ => fun
  | [d1, d2] => { results := [.lit (.bool true)], args := [d1, d2] }
  | _ => none }
def canonDenotesRow : OpenClaim := { program := "ytlkchfhcfccaoaagreatdoor", sum := "81e4e36193bc9fb90b73562eecda758b4fd93342fe483d2d50da26661db86306", func := "kenning/kenninglaw13.CanonDenotes", spec := "canonDenotes", inPlace := ["slices.overlaps[uint64]", "slices.overlaps[kenning/api.Fragment]", "internal/reflectlite.ValueOf", "(internal/reflectlite.Value).Type", "(internal/reflectlite.Value).IsNil", "internal/reflectlite.TypeOf", "(internal/reflectlite.Value).Elem", "(internal/reflectlite.Value).Set"], unfollowed := true, recurses := true, named := ["kenning/canon.codes", "errors.errorType"], apart := false, laid := [("errors.errorType", laid_errors_errorType), ("kenning/canon.codes", laid_kenning_canon_codes)] }
def CanonDenotesSaid : Prop := canonDenotesRow.holds Tryz.pinned (OpenSpec.ofChange canonDenotesSpec)

/-- ITS FALSE NEIGHBOUR: 'it returns false'. Refute it at one input. -/
def canonDenotesWrong : ChangeSpec := { name := "canonDenotes", fn := fun _ => fun
  | [d1, d2] => { results := [.lit (.bool false)], args := [d1, d2] }
  | _ => none }
def CanonDenotesWrongFalsely : Prop := canonDenotesRow.holds Tryz.pinned (OpenSpec.ofChange canonDenotesWrong)

/-- 'kenninglaw13.CanonSegments': WHATEVER THE INPUT: true; the input reads as it did. -/
def canonSegmentsSpec : ChangeSpec := { name := "canonSegments", fn := fun _ => fun
  | [d1, d2] => { results := [.lit (.bool true)], args := [d1, d2] }
  | _ => none }
def canonSegmentsRow : OpenClaim := { program := "ytlkchfhcfccaoaagreatdoor", sum := "81e4e36193bc9fb90b73562eecda758b4fd93342fe483d2d50da26661db86306", func := "kenning/kenninglaw13.CanonSegments", spec := "canonSegments", inPlace := ["slices.overlaps[uint64]", "slices.overlaps[kenning/api.Fragment]", "internal/reflectlite.ValueOf", "(internal/reflectlite.Value).Type", "(internal/reflectlite.Value).IsNil", "internal/reflectlite.TypeOf", "(internal/reflectlite.Value).Elem", "(internal/reflectlite.Value).Set"], unfollowed := true, recurses := true, named := ["kenning/canon.codes", "errors.errorType"], apart := false, laid := [("errors.errorType", laid_errors_errorType), ("kenning/canon.codes", laid_kenning_canon_codes)] }
def CanonSegmentsSaid : Prop := canonSegmentsRow.holds Tryz.pinned (OpenSpec.ofChange canonSegmentsSpec)

/-- ITS FALSE NEIGHBOUR: 'it returns false'. Refute it at one input. -/
def canonSegmentsWrong : ChangeSpec := { name := "canonSegments", fn := fun _ => fun
  | [d1, d2] => { results := [.lit (.bool false)], args := [d1, d2] }
  | _ => none }
def CanonSegmentsWrongFalsely : Prop := canonSegmentsRow.holds Tryz.pinned (OpenSpec.ofChange canonSegmentsWrong)

/-- 'kenninglaw13.CanonBuilds': WHATEVER THE INPUT: true; the input reads as it did. -/
def canonBuildsSpec : ChangeSpec := { name := "canonBuilds", fn := fun _ => fun
  | [d1, d2, d3] => { results := [.lit (.bool true)], args := [d1, d2, d3] }
  | _ => none }
def canonBuildsRow : OpenClaim := { program := "ytlkchfhcfccaoaagreatdoor", sum := "81e4e36193bc9fb90b73562eecda758b4fd93342fe483d2d50da26661db86306", func := "kenning/kenninglaw13.CanonBuilds", spec := "canonBuilds", inPlace := ["slices.overlaps[uint64]", "slices.overlaps[kenning/api.Fragment]", "internal/reflectlite.ValueOf", "(internal/reflectlite.Value).Type", "(internal/reflectlite.Value).IsNil", "internal/reflectlite.TypeOf", "(internal/reflectlite.Value).Elem", "(internal/reflectlite.Value).Set"], unfollowed := true, recurses := true, named := ["kenning/canon.codes", "errors.errorType"], apart := false, laid := [("errors.errorType", laid_errors_errorType), ("kenning/canon.codes", laid_kenning_canon_codes)] }
def CanonBuildsSaid : Prop := canonBuildsRow.holds Tryz.pinned (OpenSpec.ofChange canonBuildsSpec)

/-- ITS FALSE NEIGHBOUR: 'it returns false'. Refute it at one input. -/
def canonBuildsWrong : ChangeSpec := { name := "canonBuilds", fn := fun _ => fun
  | [d1, d2, d3] => { results := [.lit (.bool false)], args := [d1, d2, d3] }
  | _ => none }
def CanonBuildsWrongFalsely : Prop := canonBuildsRow.holds Tryz.pinned (OpenSpec.ofChange canonBuildsWrong)

/- THE SECOND FORM. 'bulk': how many values and letters a reading holds, each counted each time it is reached (what is shared counts as often as it is met; a slice's spare places count too). A statement '..UptoSaid' is the law's where the arguments, and the package variables that the reading takes, are together of bulk at most 1048576: NARROWER than '..Said'. Prove '..Said' where nothing that the law and all that it calls make is longer than what came in: it says more and counts as full. Else prove '..UptoSaid'. A law counts once. -/
mutual
def uptoBulk {H : Type} : DataW H → Nat
  | .lit (.string bytes) => bytes.length + 1
  | .lit _ => 1
  | .nil => 1
  | .ptr d => uptoBulk d + 1
  | .slice elems spare => uptoBulkAll elems + uptoBulkAll spare + 1
  | .agg parts => uptoBulkAll parts + 1
  | .iface _ d => uptoBulk d + 1
  | .map entries => uptoBulkEntries entries + 1
  | .held _ => 1
def uptoBulkAll {H : Type} : List (DataW H) → Nat
  | [] => 0
  | d :: r => uptoBulk d + uptoBulkAll r
def uptoBulkEntries {H : Type} : List (Lit × DataW H) → Nat
  | [] => 0
  | x :: r => uptoBulkEntry x + uptoBulkEntries r
def uptoBulkEntry {H : Type} : Lit × DataW H → Nat
  | (.string bytes, d) => bytes.length + uptoBulk d + 1
  | (_, d) => uptoBulk d + 1
 end
def uptoSmall : (H : Type) → List (DataW H) → Bool := fun _ ds => decide (uptoBulkAll ds ≤ 1048576)
def OpenSpec.upto (s : _root_.Go.ChangeSpec) : _root_.Go.OpenSpec := { _root_.Go.OpenSpec.ofChange s with cond := some uptoSmall }

/-- 'kenninglaw13.CanonMatches', WHERE WHAT IT READS IS OF BULK AT MOST 1048576: true; the input reads as it did. -/
def canonMatchesUptoRow : OpenClaim := { program := "ytlkchfhcfccaoaagreatdoor", sum := "81e4e36193bc9fb90b73562eecda758b4fd93342fe483d2d50da26661db86306", func := "kenning/kenninglaw13.CanonMatches", spec := "canonMatches", inPlace := ["slices.overlaps[uint64]", "slices.overlaps[kenning/api.Fragment]", "internal/reflectlite.ValueOf", "(internal/reflectlite.Value).Type", "(internal/reflectlite.Value).IsNil", "internal/reflectlite.TypeOf", "(internal/reflectlite.Value).Elem", "(internal/reflectlite.Value).Set"], unfollowed := true, recurses := true, named := ["kenning/canon.codes", "errors.errorType"], apart := false, laid := [("errors.errorType", laid_errors_errorType), ("kenning/canon.codes", laid_kenning_canon_codes)], narrowed := true }
def CanonMatchesUptoSaid : Prop := canonMatchesUptoRow.holds Tryz.pinned (OpenSpec.upto canonMatchesSpec)

/-- 'kenninglaw13.CanonOrder', WHERE WHAT IT READS IS OF BULK AT MOST 1048576: true; the input reads as it did. -/
def canonOrderUptoRow : OpenClaim := { program := "ytlkchfhcfccaoaagreatdoor", sum := "81e4e36193bc9fb90b73562eecda758b4fd93342fe483d2d50da26661db86306", func := "kenning/kenninglaw13.CanonOrder", spec := "canonOrder", inPlace := ["slices.overlaps[uint64]", "slices.overlaps[kenning/api.Fragment]", "internal/reflectlite.ValueOf", "(internal/reflectlite.Value).Type", "(internal/reflectlite.Value).IsNil", "internal/reflectlite.TypeOf", "(internal/reflectlite.Value).Elem", "(internal/reflectlite.Value).Set"], unfollowed := true, recurses := true, named := ["kenning/canon.codes", "errors.errorType"], apart := false, laid := [("errors.errorType", laid_errors_errorType), ("kenning/canon.codes", laid_kenning_canon_codes)], narrowed := true }
def CanonOrderUptoSaid : Prop := canonOrderUptoRow.holds Tryz.pinned (OpenSpec.upto canonOrderSpec)

/-- 'kenninglaw13.CanonChecks', WHERE WHAT IT READS IS OF BULK AT MOST 1048576: true; the input reads as it did. -/
def canonChecksUptoRow : OpenClaim := { program := "ytlkchfhcfccaoaagreatdoor", sum := "81e4e36193bc9fb90b73562eecda758b4fd93342fe483d2d50da26661db86306", func := "kenning/kenninglaw13.CanonChecks", spec := "canonChecks", inPlace := ["slices.overlaps[uint64]", "slices.overlaps[kenning/api.Fragment]", "internal/reflectlite.ValueOf", "(internal/reflectlite.Value).Type", "(internal/reflectlite.Value).IsNil", "internal/reflectlite.TypeOf", "(internal/reflectlite.Value).Elem", "(internal/reflectlite.Value).Set"], unfollowed := true, recurses := true, named := ["kenning/canon.codes", "errors.errorType"], apart := false, laid := [("errors.errorType", laid_errors_errorType), ("kenning/canon.codes", laid_kenning_canon_codes)], narrowed := true }
def CanonChecksUptoSaid : Prop := canonChecksUptoRow.holds Tryz.pinned (OpenSpec.upto canonChecksSpec)

/-- 'kenninglaw13.CanonDenotes', WHERE WHAT IT READS IS OF BULK AT MOST 1048576: true; the input reads as it did. -/
def canonDenotesUptoRow : OpenClaim := { program := "ytlkchfhcfccaoaagreatdoor", sum := "81e4e36193bc9fb90b73562eecda758b4fd93342fe483d2d50da26661db86306", func := "kenning/kenninglaw13.CanonDenotes", spec := "canonDenotes", inPlace := ["slices.overlaps[uint64]", "slices.overlaps[kenning/api.Fragment]", "internal/reflectlite.ValueOf", "(internal/reflectlite.Value).Type", "(internal/reflectlite.Value).IsNil", "internal/reflectlite.TypeOf", "(internal/reflectlite.Value).Elem", "(internal/reflectlite.Value).Set"], unfollowed := true, recurses := true, named := ["kenning/canon.codes", "errors.errorType"], apart := false, laid := [("errors.errorType", laid_errors_errorType), ("kenning/canon.codes", laid_kenning_canon_codes)], narrowed := true }
def CanonDenotesUptoSaid : Prop := canonDenotesUptoRow.holds Tryz.pinned (OpenSpec.upto canonDenotesSpec)

/-- 'kenninglaw13.CanonSegments', WHERE WHAT IT READS IS OF BULK AT MOST 1048576: true; the input reads as it did. -/
def canonSegmentsUptoRow : OpenClaim := { program := "ytlkchfhcfccaoaagreatdoor", sum := "81e4e36193bc9fb90b73562eecda758b4fd93342fe483d2d50da26661db86306", func := "kenning/kenninglaw13.CanonSegments", spec := "canonSegments", inPlace := ["slices.overlaps[uint64]", "slices.overlaps[kenning/api.Fragment]", "internal/reflectlite.ValueOf", "(internal/reflectlite.Value).Type", "(internal/reflectlite.Value).IsNil", "internal/reflectlite.TypeOf", "(internal/reflectlite.Value).Elem", "(internal/reflectlite.Value).Set"], unfollowed := true, recurses := true, named := ["kenning/canon.codes", "errors.errorType"], apart := false, laid := [("errors.errorType", laid_errors_errorType), ("kenning/canon.codes", laid_kenning_canon_codes)], narrowed := true }
def CanonSegmentsUptoSaid : Prop := canonSegmentsUptoRow.holds Tryz.pinned (OpenSpec.upto canonSegmentsSpec)

/-- 'kenninglaw13.CanonBuilds', WHERE WHAT IT READS IS OF BULK AT MOST 1048576: true; the input reads as it did. -/
def canonBuildsUptoRow : OpenClaim := { program := "ytlkchfhcfccaoaagreatdoor", sum := "81e4e36193bc9fb90b73562eecda758b4fd93342fe483d2d50da26661db86306", func := "kenning/kenninglaw13.CanonBuilds", spec := "canonBuilds", inPlace := ["slices.overlaps[uint64]", "slices.overlaps[kenning/api.Fragment]", "internal/reflectlite.ValueOf", "(internal/reflectlite.Value).Type", "(internal/reflectlite.Value).IsNil", "internal/reflectlite.TypeOf", "(internal/reflectlite.Value).Elem", "(internal/reflectlite.Value).Set"], unfollowed := true, recurses := true, named := ["kenning/canon.codes", "errors.errorType"], apart := false, laid := [("errors.errorType", laid_errors_errorType), ("kenning/canon.codes", laid_kenning_canon_codes)], narrowed := true }
def CanonBuildsUptoSaid : Prop := canonBuildsUptoRow.holds Tryz.pinned (OpenSpec.upto canonBuildsSpec)

end Rows
end Go.Proofs.YtlkchfhcfccaoaaGreatDoor
