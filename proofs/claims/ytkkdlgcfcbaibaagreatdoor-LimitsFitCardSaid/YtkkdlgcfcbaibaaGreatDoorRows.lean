/-
  NARROWER THAN 'FOR EVERY INPUT', by the rows' own cells (each row's printed sentence says how): CanonSegments: laid · LimitsCheck: laid · LimitsRelate: laid · CanonBuilds: laid · LimitsLeast: laid · LimitsFit: laid.
  DERIVED. THE GIVEN ROWS OF THIS SEAT. 6 by the template 'for every input the law returns true; each argument reads behind the call as it read before'; 0 by the template 'total and deterministic' (their statements: YtkkdlgcfcbaibaaGreatDoorTotals.lean).
  GIVEN WITH THE SEED: the statements are not yours to turn. If you find one false, say at which input.
  Laid BY PROGRAM, IN A SANDBOX (cutbox-rows.mjs): the forced cells as the released guide's own fill.sh prints them over the translation 20e7900901549b8b… (all of the seat's roots in one cut). By AI agents, Wed Nov 11 2026. No macro, syntax, notation, axiom, sorry.
-/
import Derived.Test.YtkkdlgcfcbaibaaGreatDoorChecked
import GoSem.Claim
import GoSem.ClaimJoined
import GoSem.ClaimMapViews
import Derived.JoinedTies
import Derived.KernelRfl
namespace Go.Proofs.YtkkdlgcfcbaibaaGreatDoor
/- THE CELL 'sum', in the pinned program and in every row, IS THE sha256 OF THE DUMP (.gsa) THAT YtkkdlgcfcbaibaaGreatDoorProg.lean LOADS. Nothing in Lean hashes anything: it is a label: what it is worth is what the hold of that sum in a sandbox is worth. -/
noncomputable def Tryz.pinned : Pinned := { name := "ytkkdlgcfcbaibaagreatdoor", sum := "20e7900901549b8bc2c33d135bb73631f0b8ad99830bb1a0e59386e83c98f104", checked := Tryz.checked }
namespace Rows
def none {H : Type} : Left H := { results := [], args := [] }

/- WHAT THE LISTED PACKAGE-LEVEL VARIABLES READ AS WHEN THE CALL BEGINS. Each datum BY PROGRAM (the guide's laid-datum.mjs) off the statement by which the dump's own 'gosem.cut.vars' lays the variable. In a bare row this is a premise. The card (YtkkdlgcfcbaibaaGreatDoorCards.lean) ties it to the program's text. -/
def laid_errors_errorType {H : Type} : DataW H := .iface "internal/reflectlite.rtype" (.agg [.ptr (.lit (.string [101, 114, 114, 111, 114]))])
def laid_kenning_canon_codes {H : Type} : DataW H := .agg [.lit (.int .i64 9), .lit (.int .i64 10), .lit (.int .i64 10), .lit (.int .i64 3)]

/-- 'kenninglaw13.CanonSegments': WHATEVER THE INPUT: true; the input reads as it did. -/
def canonSegmentsSpec : ChangeSpec := { name := "canonSegments", fn := fun _ => fun
  | [d1, d2] => { results := [.lit (.bool true)], args := [d1, d2] }
  | _ => none }
def canonSegmentsRow : OpenClaim := { program := "ytkkdlgcfcbaibaagreatdoor", sum := "20e7900901549b8bc2c33d135bb73631f0b8ad99830bb1a0e59386e83c98f104", func := "kenning/kenninglaw13.CanonSegments", spec := "canonSegments", inPlace := ["slices.overlaps[uint64]", "slices.overlaps[kenning/api.Fragment]", "internal/reflectlite.ValueOf", "(internal/reflectlite.Value).Type", "(internal/reflectlite.Value).IsNil", "internal/reflectlite.TypeOf", "(internal/reflectlite.Value).Elem", "(internal/reflectlite.Value).Set"], unfollowed := true, recurses := true, named := ["kenning/canon.codes", "errors.errorType"], apart := false, laid := [("errors.errorType", laid_errors_errorType), ("kenning/canon.codes", laid_kenning_canon_codes)] }
def CanonSegmentsSaid : Prop := canonSegmentsRow.holds Tryz.pinned (OpenSpec.ofChange canonSegmentsSpec)

/-- ITS FALSE NEIGHBOUR: 'it returns false'. Refute it at one input. -/
def canonSegmentsWrong : ChangeSpec := { name := "canonSegments", fn := fun _ => fun
  | [d1, d2] => { results := [.lit (.bool false)], args := [d1, d2] }
  | _ => none }
def CanonSegmentsWrongFalsely : Prop := canonSegmentsRow.holds Tryz.pinned (OpenSpec.ofChange canonSegmentsWrong)

/-- 'kenninglaw22.LimitsCheck': WHATEVER THE INPUT: true; the input reads as it did. -/
def limitsCheckSpec : ChangeSpec := { name := "limitsCheck", fn := fun _ => fun
  | [d] => { results := [.lit (.bool true)], args := [d] }
  | _ => none }
def limitsCheckRow : OpenClaim := { program := "ytkkdlgcfcbaibaagreatdoor", sum := "20e7900901549b8bc2c33d135bb73631f0b8ad99830bb1a0e59386e83c98f104", func := "kenning/kenninglaw22.LimitsCheck", spec := "limitsCheck", inPlace := ["internal/reflectlite.ValueOf", "(internal/reflectlite.Value).Type", "(internal/reflectlite.Value).IsNil", "internal/reflectlite.TypeOf", "(internal/reflectlite.Value).Elem", "(internal/reflectlite.Value).Set", "slices.overlaps[uint64]", "slices.overlaps[kenning/api.Fragment]"], unfollowed := true, recurses := true, named := ["errors.errorType"], apart := false, laid := [("errors.errorType", laid_errors_errorType)] }
def LimitsCheckSaid : Prop := limitsCheckRow.holds Tryz.pinned (OpenSpec.ofChange limitsCheckSpec)

/-- ITS FALSE NEIGHBOUR: 'it returns false'. Refute it at one input. -/
def limitsCheckWrong : ChangeSpec := { name := "limitsCheck", fn := fun _ => fun
  | [d] => { results := [.lit (.bool false)], args := [d] }
  | _ => none }
def LimitsCheckWrongFalsely : Prop := limitsCheckRow.holds Tryz.pinned (OpenSpec.ofChange limitsCheckWrong)

/-- 'kenninglaw22.LimitsRelate': WHATEVER THE INPUT: true; the input reads as it did. -/
def limitsRelateSpec : ChangeSpec := { name := "limitsRelate", fn := fun _ => fun
  | [d1, d2, d3] => { results := [.lit (.bool true)], args := [d1, d2, d3] }
  | _ => none }
def limitsRelateRow : OpenClaim := { program := "ytkkdlgcfcbaibaagreatdoor", sum := "20e7900901549b8bc2c33d135bb73631f0b8ad99830bb1a0e59386e83c98f104", func := "kenning/kenninglaw22.LimitsRelate", spec := "limitsRelate", inPlace := ["internal/reflectlite.ValueOf", "(internal/reflectlite.Value).Type", "(internal/reflectlite.Value).IsNil", "internal/reflectlite.TypeOf", "(internal/reflectlite.Value).Elem", "(internal/reflectlite.Value).Set", "slices.overlaps[uint64]", "slices.overlaps[kenning/api.Fragment]"], unfollowed := true, recurses := true, named := ["errors.errorType"], apart := false, laid := [("errors.errorType", laid_errors_errorType)] }
def LimitsRelateSaid : Prop := limitsRelateRow.holds Tryz.pinned (OpenSpec.ofChange limitsRelateSpec)

/-- ITS FALSE NEIGHBOUR: 'it returns false'. Refute it at one input. -/
def limitsRelateWrong : ChangeSpec := { name := "limitsRelate", fn := fun _ => fun
  | [d1, d2, d3] => { results := [.lit (.bool false)], args := [d1, d2, d3] }
  | _ => none }
def LimitsRelateWrongFalsely : Prop := limitsRelateRow.holds Tryz.pinned (OpenSpec.ofChange limitsRelateWrong)

/-- 'kenninglaw13.CanonBuilds': WHATEVER THE INPUT: true; the input reads as it did. -/
def canonBuildsSpec : ChangeSpec := { name := "canonBuilds", fn := fun _ => fun
  | [d1, d2, d3] => { results := [.lit (.bool true)], args := [d1, d2, d3] }
  | _ => none }
def canonBuildsRow : OpenClaim := { program := "ytkkdlgcfcbaibaagreatdoor", sum := "20e7900901549b8bc2c33d135bb73631f0b8ad99830bb1a0e59386e83c98f104", func := "kenning/kenninglaw13.CanonBuilds", spec := "canonBuilds", inPlace := ["slices.overlaps[uint64]", "slices.overlaps[kenning/api.Fragment]", "internal/reflectlite.ValueOf", "(internal/reflectlite.Value).Type", "(internal/reflectlite.Value).IsNil", "internal/reflectlite.TypeOf", "(internal/reflectlite.Value).Elem", "(internal/reflectlite.Value).Set"], unfollowed := true, recurses := true, named := ["kenning/canon.codes", "errors.errorType"], apart := false, laid := [("errors.errorType", laid_errors_errorType), ("kenning/canon.codes", laid_kenning_canon_codes)] }
def CanonBuildsSaid : Prop := canonBuildsRow.holds Tryz.pinned (OpenSpec.ofChange canonBuildsSpec)

/-- ITS FALSE NEIGHBOUR: 'it returns false'. Refute it at one input. -/
def canonBuildsWrong : ChangeSpec := { name := "canonBuilds", fn := fun _ => fun
  | [d1, d2, d3] => { results := [.lit (.bool false)], args := [d1, d2, d3] }
  | _ => none }
def CanonBuildsWrongFalsely : Prop := canonBuildsRow.holds Tryz.pinned (OpenSpec.ofChange canonBuildsWrong)

/-- 'kenninglaw22.LimitsLeast': WHATEVER THE INPUT: true; the input reads as it did. -/
def limitsLeastSpec : ChangeSpec := { name := "limitsLeast", fn := fun _ => fun
  | [d] => { results := [.lit (.bool true)], args := [d] }
  | _ => none }
def limitsLeastRow : OpenClaim := { program := "ytkkdlgcfcbaibaagreatdoor", sum := "20e7900901549b8bc2c33d135bb73631f0b8ad99830bb1a0e59386e83c98f104", func := "kenning/kenninglaw22.LimitsLeast", spec := "limitsLeast", inPlace := ["internal/reflectlite.ValueOf", "(internal/reflectlite.Value).Type", "(internal/reflectlite.Value).IsNil", "internal/reflectlite.TypeOf", "(internal/reflectlite.Value).Elem", "(internal/reflectlite.Value).Set", "slices.overlaps[uint64]", "slices.overlaps[kenning/api.Fragment]"], unfollowed := true, recurses := true, named := ["errors.errorType"], apart := false, laid := [("errors.errorType", laid_errors_errorType)] }
def LimitsLeastSaid : Prop := limitsLeastRow.holds Tryz.pinned (OpenSpec.ofChange limitsLeastSpec)

/-- ITS FALSE NEIGHBOUR: 'it returns false'. Refute it at one input. -/
def limitsLeastWrong : ChangeSpec := { name := "limitsLeast", fn := fun _ => fun
  | [d] => { results := [.lit (.bool false)], args := [d] }
  | _ => none }
def LimitsLeastWrongFalsely : Prop := limitsLeastRow.holds Tryz.pinned (OpenSpec.ofChange limitsLeastWrong)

/-- 'kenninglaw22.LimitsFit': WHATEVER THE INPUT: true; the input reads as it did. -/
def limitsFitSpec : ChangeSpec := { name := "limitsFit", fn := fun _ => fun
  | [d1, d2] => { results := [.lit (.bool true)], args := [d1, d2] }
  | _ => none }
def limitsFitRow : OpenClaim := { program := "ytkkdlgcfcbaibaagreatdoor", sum := "20e7900901549b8bc2c33d135bb73631f0b8ad99830bb1a0e59386e83c98f104", func := "kenning/kenninglaw22.LimitsFit", spec := "limitsFit", inPlace := ["internal/reflectlite.ValueOf", "(internal/reflectlite.Value).Type", "(internal/reflectlite.Value).IsNil", "internal/reflectlite.TypeOf", "(internal/reflectlite.Value).Elem", "(internal/reflectlite.Value).Set", "slices.overlaps[uint64]", "slices.overlaps[kenning/api.Fragment]"], unfollowed := true, recurses := true, named := ["errors.errorType"], apart := false, laid := [("errors.errorType", laid_errors_errorType)] }
def LimitsFitSaid : Prop := limitsFitRow.holds Tryz.pinned (OpenSpec.ofChange limitsFitSpec)

/-- ITS FALSE NEIGHBOUR: 'it returns false'. Refute it at one input. -/
def limitsFitWrong : ChangeSpec := { name := "limitsFit", fn := fun _ => fun
  | [d1, d2] => { results := [.lit (.bool false)], args := [d1, d2] }
  | _ => none }
def LimitsFitWrongFalsely : Prop := limitsFitRow.holds Tryz.pinned (OpenSpec.ofChange limitsFitWrong)

/- THE SECOND FORM. 'bulk': how many values and letters a reading holds, each counted each time it is reached (what is shared counts as often as it is met; a slice's spare places count too). A statement '..UptoSaid' is the law's where the arguments, and the package variables that the reading takes, are together of bulk at most 1048576: NARROWER than '..Said'. Prove '..Said' where nothing that the law and all that it calls make is longer than what came in: it says more and counts as full. Else prove '..UptoSaid'. A law counts once. -/
mutual
def uptoBulk {H : Type} : DataW H → Nat
  | .lit (.string bytes) => bytes.length + 1
  | .lit _ => 1
  | .nil => 1
  | .ptr d => uptoBulk d + 1
  | .slice elems spare => uptoBulkAll elems + uptoBulkAll spare + 1
  | .agg parts => uptoBulkAll parts + 1
  | .iface _ d => uptoBulk d + 1
  | .map entries => uptoBulkEntries entries + 1
  | .held _ => 1
def uptoBulkAll {H : Type} : List (DataW H) → Nat
  | [] => 0
  | d :: r => uptoBulk d + uptoBulkAll r
def uptoBulkEntries {H : Type} : List (Lit × DataW H) → Nat
  | [] => 0
  | x :: r => uptoBulkEntry x + uptoBulkEntries r
def uptoBulkEntry {H : Type} : Lit × DataW H → Nat
  | (.string bytes, d) => bytes.length + uptoBulk d + 1
  | (_, d) => uptoBulk d + 1
 end
def uptoSmall : (H : Type) → List (DataW H) → Bool := fun _ ds => decide (uptoBulkAll ds ≤ 1048576)
def OpenSpec.upto (s : _root_.Go.ChangeSpec) : _root_.Go.OpenSpec := { _root_.Go.OpenSpec.ofChange s with cond := some uptoSmall }

/-- 'kenninglaw13.CanonSegments', WHERE WHAT IT READS IS OF BULK AT MOST 1048576: true; the input reads as it did. -/
def canonSegmentsUptoRow : OpenClaim := { program := "ytkkdlgcfcbaibaagreatdoor", sum := "20e7900901549b8bc2c33d135bb73631f0b8ad99830bb1a0e59386e83c98f104", func := "kenning/kenninglaw13.CanonSegments", spec := "canonSegments", inPlace := ["slices.overlaps[uint64]", "slices.overlaps[kenning/api.Fragment]", "internal/reflectlite.ValueOf", "(internal/reflectlite.Value).Type", "(internal/reflectlite.Value).IsNil", "internal/reflectlite.TypeOf", "(internal/reflectlite.Value).Elem", "(internal/reflectlite.Value).Set"], unfollowed := true, recurses := true, named := ["kenning/canon.codes", "errors.errorType"], apart := false, laid := [("errors.errorType", laid_errors_errorType), ("kenning/canon.codes", laid_kenning_canon_codes)], narrowed := true }
def CanonSegmentsUptoSaid : Prop := canonSegmentsUptoRow.holds Tryz.pinned (OpenSpec.upto canonSegmentsSpec)

/-- 'kenninglaw22.LimitsCheck', WHERE WHAT IT READS IS OF BULK AT MOST 1048576: true; the input reads as it did. -/
def limitsCheckUptoRow : OpenClaim := { program := "ytkkdlgcfcbaibaagreatdoor", sum := "20e7900901549b8bc2c33d135bb73631f0b8ad99830bb1a0e59386e83c98f104", func := "kenning/kenninglaw22.LimitsCheck", spec := "limitsCheck", inPlace := ["internal/reflectlite.ValueOf", "(internal/reflectlite.Value).Type", "(internal/reflectlite.Value).IsNil", "internal/reflectlite.TypeOf", "(internal/reflectlite.Value).Elem", "(internal/reflectlite.Value).Set", "slices.overlaps[uint64]", "slices.overlaps[kenning/api.Fragment]"], unfollowed := true, recurses := true, named := ["errors.errorType"], apart := false, laid := [("errors.errorType", laid_errors_errorType)], narrowed := true }
def LimitsCheckUptoSaid : Prop := limitsCheckUptoRow.holds Tryz.pinned (OpenSpec.upto limitsCheckSpec)

/-- 'kenninglaw22.LimitsRelate', WHERE WHAT IT READS IS OF BULK AT MOST 1048576: true; the input reads as it did. -/
def limitsRelateUptoRow : OpenClaim := { program := "ytkkdlgcfcbaibaagreatdoor", sum := "20e7900901549b8bc2c33d135bb73631f0b8ad99830bb1a0e59386e83c98f104", func := "kenning/kenninglaw22.LimitsRelate", spec := "limitsRelate", inPlace := ["internal/reflectlite.ValueOf", "(internal/reflectlite.Value).Type", "(internal/reflectlite.Value).IsNil", "internal/reflectlite.TypeOf", "(internal/reflectlite.Value).Elem", "(internal/reflectlite.Value).Set", "slices.overlaps[uint64]", "slices.overlaps[kenning/api.Fragment]"], unfollowed := true, recurses := true, named := ["errors.errorType"], apart := false, laid := [("errors.errorType", laid_errors_errorType)], narrowed := true }
def LimitsRelateUptoSaid : Prop := limitsRelateUptoRow.holds Tryz.pinned (OpenSpec.upto limitsRelateSpec)

/-- 'kenninglaw13.CanonBuilds', WHERE WHAT IT READS IS OF BULK AT MOST 1048576: true; the input reads as it did. -/
def canonBuildsUptoRow : OpenClaim := { program := "ytkkdlgcfcbaibaagreatdoor", sum := "20e7900901549b8bc2c33d135bb73631f0b8ad99830bb1a0e59386e83c98f104", func := "kenning/kenninglaw13.CanonBuilds", spec := "canonBuilds", inPlace := ["slices.overlaps[uint64]", "slices.overlaps[kenning/api.Fragment]", "internal/reflectlite.ValueOf", "(internal/reflectlite.Value).Type", "(internal/reflectlite.Value).IsNil", "internal/reflectlite.TypeOf", "(internal/reflectlite.Value).Elem", "(internal/reflectlite.Value).Set"], unfollowed := true, recurses := true, named := ["kenning/canon.codes", "errors.errorType"], apart := false, laid := [("errors.errorType", laid_errors_errorType), ("kenning/canon.codes", laid_kenning_canon_codes)], narrowed := true }
def CanonBuildsUptoSaid : Prop := canonBuildsUptoRow.holds Tryz.pinned (OpenSpec.upto canonBuildsSpec)

/-- 'kenninglaw22.LimitsLeast', WHERE WHAT IT READS IS OF BULK AT MOST 1048576: true; the input reads as it did. -/
def limitsLeastUptoRow : OpenClaim := { program := "ytkkdlgcfcbaibaagreatdoor", sum := "20e7900901549b8bc2c33d135bb73631f0b8ad99830bb1a0e59386e83c98f104", func := "kenning/kenninglaw22.LimitsLeast", spec := "limitsLeast", inPlace := ["internal/reflectlite.ValueOf", "(internal/reflectlite.Value).Type", "(internal/reflectlite.Value).IsNil", "internal/reflectlite.TypeOf", "(internal/reflectlite.Value).Elem", "(internal/reflectlite.Value).Set", "slices.overlaps[uint64]", "slices.overlaps[kenning/api.Fragment]"], unfollowed := true, recurses := true, named := ["errors.errorType"], apart := false, laid := [("errors.errorType", laid_errors_errorType)], narrowed := true }
def LimitsLeastUptoSaid : Prop := limitsLeastUptoRow.holds Tryz.pinned (OpenSpec.upto limitsLeastSpec)

/-- 'kenninglaw22.LimitsFit', WHERE WHAT IT READS IS OF BULK AT MOST 1048576: true; the input reads as it did. -/
def limitsFitUptoRow : OpenClaim := { program := "ytkkdlgcfcbaibaagreatdoor", sum := "20e7900901549b8bc2c33d135bb73631f0b8ad99830bb1a0e59386e83c98f104", func := "kenning/kenninglaw22.LimitsFit", spec := "limitsFit", inPlace := ["internal/reflectlite.ValueOf", "(internal/reflectlite.Value).Type", "(internal/reflectlite.Value).IsNil", "internal/reflectlite.TypeOf", "(internal/reflectlite.Value).Elem", "(internal/reflectlite.Value).Set", "slices.overlaps[uint64]", "slices.overlaps[kenning/api.Fragment]"], unfollowed := true, recurses := true, named := ["errors.errorType"], apart := false, laid := [("errors.errorType", laid_errors_errorType)], narrowed := true }
def LimitsFitUptoSaid : Prop := limitsFitUptoRow.holds Tryz.pinned (OpenSpec.upto limitsFitSpec)

end Rows
end Go.Proofs.YtkkdlgcfcbaibaaGreatDoor
