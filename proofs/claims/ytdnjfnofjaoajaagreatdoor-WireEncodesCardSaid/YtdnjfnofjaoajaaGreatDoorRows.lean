/-
  NARROWER THAN 'FOR EVERY INPUT', by the rows' own cells (each row's printed sentence says how): FrameEncodes: laid · WireDecodes: laid · WireSteps: laid · WireCuts: laid · WireDiffers: laid · WireEncodes: laid · WireIsCanonical: laid · LimitsDecode: laid · LimitsUnlimited: laid.
  DERIVED. THE GIVEN ROWS OF THIS SEAT. 9 by the template 'for every input the law returns true; each argument reads behind the call as it read before'; 0 by the template 'total and deterministic' (their statements: YtdnjfnofjaoajaaGreatDoorTotals.lean).
  GIVEN WITH THE SEED: the statements are not yours to turn. If you find one false, say at which input.
  Laid BY PROGRAM, IN A SANDBOX (cutbox-rows.mjs): the forced cells as the released guide's own fill.sh prints them over the translation 0a30a10f50660d7b… (all of the seat's roots in one cut). By AI agents, Wed Nov 11 2026. No macro, syntax, notation, axiom, sorry.
-/
import Derived.Test.YtdnjfnofjaoajaaGreatDoorChecked
import GoSem.Claim
import GoSem.ClaimJoined
import GoSem.ClaimMapViews
import Derived.JoinedTies
import Derived.KernelRfl
namespace Go.Proofs.YtdnjfnofjaoajaaGreatDoor
/- THE CELL 'sum', in the pinned program and in every row, IS THE sha256 OF THE DUMP (.gsa) THAT YtdnjfnofjaoajaaGreatDoorProg.lean LOADS. Nothing in Lean hashes anything: it is a label: what it is worth is what the hold of that sum in a sandbox is worth. -/
noncomputable def Tryz.pinned : Pinned := { name := "ytdnjfnofjaoajaagreatdoor", sum := "0a30a10f50660d7b73735e765808d5ee4446b261e6a0b07df4514caf8d5ad803", checked := Tryz.checked }
namespace Rows
def none {H : Type} : Left H := { results := [], args := [] }

/- WHAT THE LISTED PACKAGE-LEVEL VARIABLES READ AS WHEN THE CALL BEGINS. Each datum BY PROGRAM (the guide's laid-datum.mjs) off the statement by which the dump's own 'gosem.cut.vars' lays the variable. In a bare row this is a premise. The card (YtdnjfnofjaoajaaGreatDoorCards.lean) ties it to the program's text. -/
def laid_errors_errorType {H : Type} : DataW H := .iface "internal/reflectlite.rtype" (.agg [.ptr (.lit (.string [101, 114, 114, 111, 114]))])
def laid_kenning_canon_codes {H : Type} : DataW H := .agg [.lit (.int .i64 9), .lit (.int .i64 10), .lit (.int .i64 10), .lit (.int .i64 3)]

/-- 'kenninglaw21.FrameEncodes': WHATEVER THE INPUT: true; the input reads as it did. -/
def frameEncodesSpec : ChangeSpec := { name := "frameEncodes", fn := fun _ => fun
  | [d] => { results := [.lit (.bool true)], args := [d] }
  | _ => none }
def frameEncodesRow : OpenClaim := { program := "ytdnjfnofjaoajaagreatdoor", sum := "0a30a10f50660d7b73735e765808d5ee4446b261e6a0b07df4514caf8d5ad803", func := "kenning/kenninglaw21.FrameEncodes", spec := "frameEncodes", inPlace := ["internal/reflectlite.ValueOf", "(internal/reflectlite.Value).Type", "(internal/reflectlite.Value).IsNil", "internal/reflectlite.TypeOf", "(internal/reflectlite.Value).Elem", "(internal/reflectlite.Value).Set", "slices.overlaps[uint64]", "slices.overlaps[kenning/api.Fragment]"], unfollowed := true, recurses := true, named := ["errors.errorType"], apart := false, laid := [("errors.errorType", laid_errors_errorType)] }
def FrameEncodesSaid : Prop := frameEncodesRow.holds Tryz.pinned (OpenSpec.ofChange frameEncodesSpec)

/-- ITS FALSE NEIGHBOUR: 'it returns false'. Refute it at one input. -/
def frameEncodesWrong : ChangeSpec := { name := "frameEncodes", fn := fun _ => fun
  | [d] => { results := [.lit (.bool false)], args := [d] }
  | _ => none }
def FrameEncodesWrongFalsely : Prop := frameEncodesRow.holds Tryz.pinned (OpenSpec.ofChange frameEncodesWrong)

/-- 'kenninglaw19.WireDecodes': WHATEVER THE INPUT: true; the input reads as it did. -/
def wireDecodesSpec : ChangeSpec := { name := "wireDecodes", fn := fun _ => fun
  | [d1, d2] => { results := [.lit (.bool true)], args := [d1, d2] }
  | _ => none }
def wireDecodesRow : OpenClaim := { program := "ytdnjfnofjaoajaagreatdoor", sum := "0a30a10f50660d7b73735e765808d5ee4446b261e6a0b07df4514caf8d5ad803", func := "kenning/kenninglaw19.WireDecodes", spec := "wireDecodes", inPlace := ["internal/reflectlite.ValueOf", "(internal/reflectlite.Value).Type", "(internal/reflectlite.Value).IsNil", "internal/reflectlite.TypeOf", "(internal/reflectlite.Value).Elem", "(internal/reflectlite.Value).Set", "slices.overlaps[uint64]", "slices.overlaps[kenning/api.Fragment]"], unfollowed := true, recurses := true, named := ["errors.errorType"], apart := false, laid := [("errors.errorType", laid_errors_errorType)] }
def WireDecodesSaid : Prop := wireDecodesRow.holds Tryz.pinned (OpenSpec.ofChange wireDecodesSpec)

/-- ITS FALSE NEIGHBOUR: 'it returns false'. Refute it at one input. -/
def wireDecodesWrong : ChangeSpec := { name := "wireDecodes", fn := fun _ => fun
  | [d1, d2] => { results := [.lit (.bool false)], args := [d1, d2] }
  | _ => none }
def WireDecodesWrongFalsely : Prop := wireDecodesRow.holds Tryz.pinned (OpenSpec.ofChange wireDecodesWrong)

/-- 'kenninglaw19.WireSteps': WHATEVER THE INPUT: true; the input reads as it did. -/
def wireStepsSpec : ChangeSpec := { name := "wireSteps", fn := fun _ => fun
  | [d1, d2, d3] => { results := [.lit (.bool true)], args := [d1, d2, d3] }
  | _ => none }
def wireStepsRow : OpenClaim := { program := "ytdnjfnofjaoajaagreatdoor", sum := "0a30a10f50660d7b73735e765808d5ee4446b261e6a0b07df4514caf8d5ad803", func := "kenning/kenninglaw19.WireSteps", spec := "wireSteps", inPlace := ["internal/reflectlite.ValueOf", "(internal/reflectlite.Value).Type", "(internal/reflectlite.Value).IsNil", "internal/reflectlite.TypeOf", "(internal/reflectlite.Value).Elem", "(internal/reflectlite.Value).Set", "slices.overlaps[uint64]", "slices.overlaps[kenning/api.Fragment]"], unfollowed := true, recurses := true, named := ["errors.errorType"], apart := false, laid := [("errors.errorType", laid_errors_errorType)] }
def WireStepsSaid : Prop := wireStepsRow.holds Tryz.pinned (OpenSpec.ofChange wireStepsSpec)

/-- ITS FALSE NEIGHBOUR: 'it returns false'. Refute it at one input. -/
def wireStepsWrong : ChangeSpec := { name := "wireSteps", fn := fun _ => fun
  | [d1, d2, d3] => { results := [.lit (.bool false)], args := [d1, d2, d3] }
  | _ => none }
def WireStepsWrongFalsely : Prop := wireStepsRow.holds Tryz.pinned (OpenSpec.ofChange wireStepsWrong)

/-- 'kenninglaw19.WireCuts': WHATEVER THE INPUT: true; the input reads as it did. -/
def wireCutsSpec : ChangeSpec := { name := "wireCuts", fn := fun _ => fun
  | [d1, d2, d3] => { results := [.lit (.bool true)], args := [d1, d2, d3] }
  | _ => none }
def wireCutsRow : OpenClaim := { program := "ytdnjfnofjaoajaagreatdoor", sum := "0a30a10f50660d7b73735e765808d5ee4446b261e6a0b07df4514caf8d5ad803", func := "kenning/kenninglaw19.WireCuts", spec := "wireCuts", inPlace := ["internal/reflectlite.ValueOf", "(internal/reflectlite.Value).Type", "(internal/reflectlite.Value).IsNil", "internal/reflectlite.TypeOf", "(internal/reflectlite.Value).Elem", "(internal/reflectlite.Value).Set", "slices.overlaps[uint64]", "slices.overlaps[kenning/api.Fragment]"], unfollowed := true, recurses := true, named := ["errors.errorType"], apart := false, laid := [("errors.errorType", laid_errors_errorType)] }
def WireCutsSaid : Prop := wireCutsRow.holds Tryz.pinned (OpenSpec.ofChange wireCutsSpec)

/-- ITS FALSE NEIGHBOUR: 'it returns false'. Refute it at one input. -/
def wireCutsWrong : ChangeSpec := { name := "wireCuts", fn := fun _ => fun
  | [d1, d2, d3] => { results := [.lit (.bool false)], args := [d1, d2, d3] }
  | _ => none }
def WireCutsWrongFalsely : Prop := wireCutsRow.holds Tryz.pinned (OpenSpec.ofChange wireCutsWrong)

/-- 'kenninglaw19.WireDiffers': WHATEVER THE INPUT: true; the input reads as it did. -/
def wireDiffersSpec : ChangeSpec := { name := "wireDiffers", fn := fun _ => fun
  | [d1, d2] => { results := [.lit (.bool true)], args := [d1, d2] }
  | _ => none }
def wireDiffersRow : OpenClaim := { program := "ytdnjfnofjaoajaagreatdoor", sum := "0a30a10f50660d7b73735e765808d5ee4446b261e6a0b07df4514caf8d5ad803", func := "kenning/kenninglaw19.WireDiffers", spec := "wireDiffers", inPlace := ["internal/reflectlite.ValueOf", "(internal/reflectlite.Value).Type", "(internal/reflectlite.Value).IsNil", "internal/reflectlite.TypeOf", "(internal/reflectlite.Value).Elem", "(internal/reflectlite.Value).Set", "slices.overlaps[uint64]", "slices.overlaps[kenning/api.Fragment]"], unfollowed := true, recurses := true, named := ["errors.errorType"], apart := false, laid := [("errors.errorType", laid_errors_errorType)] }
def WireDiffersSaid : Prop := wireDiffersRow.holds Tryz.pinned (OpenSpec.ofChange wireDiffersSpec)

/-- ITS FALSE NEIGHBOUR: 'it returns false'. Refute it at one input. -/
def wireDiffersWrong : ChangeSpec := { name := "wireDiffers", fn := fun _ => fun
  | [d1, d2] => { results := [.lit (.bool false)], args := [d1, d2] }
  | _ => none }
def WireDiffersWrongFalsely : Prop := wireDiffersRow.holds Tryz.pinned (OpenSpec.ofChange wireDiffersWrong)

/-- 'kenninglaw19.WireEncodes': WHATEVER THE INPUT: true; the input reads as it did. -/
def wireEncodesSpec : ChangeSpec := { name := "wireEncodes", fn := fun _ => fun
  | [d] => { results := [.lit (.bool true)], args := [d] }
  | _ => none }
def wireEncodesRow : OpenClaim := { program := "ytdnjfnofjaoajaagreatdoor", sum := "0a30a10f50660d7b73735e765808d5ee4446b261e6a0b07df4514caf8d5ad803", func := "kenning/kenninglaw19.WireEncodes", spec := "wireEncodes", inPlace := ["internal/reflectlite.ValueOf", "(internal/reflectlite.Value).Type", "(internal/reflectlite.Value).IsNil", "internal/reflectlite.TypeOf", "(internal/reflectlite.Value).Elem", "(internal/reflectlite.Value).Set", "slices.overlaps[uint64]", "slices.overlaps[kenning/api.Fragment]"], unfollowed := true, recurses := true, named := ["errors.errorType"], apart := false, laid := [("errors.errorType", laid_errors_errorType)] }
def WireEncodesSaid : Prop := wireEncodesRow.holds Tryz.pinned (OpenSpec.ofChange wireEncodesSpec)

/-- ITS FALSE NEIGHBOUR: 'it returns false'. Refute it at one input. -/
def wireEncodesWrong : ChangeSpec := { name := "wireEncodes", fn := fun _ => fun
  | [d] => { results := [.lit (.bool false)], args := [d] }
  | _ => none }
def WireEncodesWrongFalsely : Prop := wireEncodesRow.holds Tryz.pinned (OpenSpec.ofChange wireEncodesWrong)

/-- 'kenninglaw19.WireIsCanonical': WHATEVER THE INPUT: true; the input reads as it did. -/
def wireIsCanonicalSpec : ChangeSpec := { name := "wireIsCanonical", fn := fun _ => fun
  | [d] => { results := [.lit (.bool true)], args := [d] }
  | _ => none }
def wireIsCanonicalRow : OpenClaim := { program := "ytdnjfnofjaoajaagreatdoor", sum := "0a30a10f50660d7b73735e765808d5ee4446b261e6a0b07df4514caf8d5ad803", func := "kenning/kenninglaw19.WireIsCanonical", spec := "wireIsCanonical", inPlace := ["internal/reflectlite.ValueOf", "(internal/reflectlite.Value).Type", "(internal/reflectlite.Value).IsNil", "internal/reflectlite.TypeOf", "(internal/reflectlite.Value).Elem", "(internal/reflectlite.Value).Set", "slices.overlaps[uint64]", "slices.overlaps[kenning/api.Fragment]"], unfollowed := true, recurses := true, named := ["errors.errorType", "kenning/canon.codes"], apart := false, laid := [("errors.errorType", laid_errors_errorType), ("kenning/canon.codes", laid_kenning_canon_codes)] }
def WireIsCanonicalSaid : Prop := wireIsCanonicalRow.holds Tryz.pinned (OpenSpec.ofChange wireIsCanonicalSpec)

/-- ITS FALSE NEIGHBOUR: 'it returns false'. Refute it at one input. -/
def wireIsCanonicalWrong : ChangeSpec := { name := "wireIsCanonical", fn := fun _ => fun
  | [d] => { results := [.lit (.bool false)], args := [d] }
  | _ => none }
def WireIsCanonicalWrongFalsely : Prop := wireIsCanonicalRow.holds Tryz.pinned (OpenSpec.ofChange wireIsCanonicalWrong)

/-- 'kenninglaw22.LimitsDecode': WHATEVER THE INPUT: true; the input reads as it did. -/
def limitsDecodeSpec : ChangeSpec := { name := "limitsDecode", fn := fun _ => fun
  | [d1, d2] => { results := [.lit (.bool true)], args := [d1, d2] }
  | _ => none }
def limitsDecodeRow : OpenClaim := { program := "ytdnjfnofjaoajaagreatdoor", sum := "0a30a10f50660d7b73735e765808d5ee4446b261e6a0b07df4514caf8d5ad803", func := "kenning/kenninglaw22.LimitsDecode", spec := "limitsDecode", inPlace := ["internal/reflectlite.ValueOf", "(internal/reflectlite.Value).Type", "(internal/reflectlite.Value).IsNil", "internal/reflectlite.TypeOf", "(internal/reflectlite.Value).Elem", "(internal/reflectlite.Value).Set", "slices.overlaps[uint64]", "slices.overlaps[kenning/api.Fragment]"], unfollowed := true, recurses := true, named := ["errors.errorType"], apart := false, laid := [("errors.errorType", laid_errors_errorType)] }
def LimitsDecodeSaid : Prop := limitsDecodeRow.holds Tryz.pinned (OpenSpec.ofChange limitsDecodeSpec)

/-- ITS FALSE NEIGHBOUR: 'it returns false'. Refute it at one input. -/
def limitsDecodeWrong : ChangeSpec := { name := "limitsDecode", fn := fun _ => fun
  | [d1, d2] => { results := [.lit (.bool false)], args := [d1, d2] }
  | _ => none }
def LimitsDecodeWrongFalsely : Prop := limitsDecodeRow.holds Tryz.pinned (OpenSpec.ofChange limitsDecodeWrong)

/-- 'kenninglaw22.LimitsUnlimited': WHATEVER THE INPUT: true; the input reads as it did. -/
def limitsUnlimitedSpec : ChangeSpec := { name := "limitsUnlimited", fn := fun _ => fun
  | [d] => { results := [.lit (.bool true)], args := [d] }
  | _ => none }
def limitsUnlimitedRow : OpenClaim := { program := "ytdnjfnofjaoajaagreatdoor", sum := "0a30a10f50660d7b73735e765808d5ee4446b261e6a0b07df4514caf8d5ad803", func := "kenning/kenninglaw22.LimitsUnlimited", spec := "limitsUnlimited", inPlace := ["internal/reflectlite.ValueOf", "(internal/reflectlite.Value).Type", "(internal/reflectlite.Value).IsNil", "internal/reflectlite.TypeOf", "(internal/reflectlite.Value).Elem", "(internal/reflectlite.Value).Set", "slices.overlaps[uint64]", "slices.overlaps[kenning/api.Fragment]"], unfollowed := true, recurses := true, named := ["errors.errorType"], apart := false, laid := [("errors.errorType", laid_errors_errorType)] }
def LimitsUnlimitedSaid : Prop := limitsUnlimitedRow.holds Tryz.pinned (OpenSpec.ofChange limitsUnlimitedSpec)

/-- ITS FALSE NEIGHBOUR: 'it returns false'. Refute it at one input. -/
def limitsUnlimitedWrong : ChangeSpec := { name := "limitsUnlimited", fn := fun _ => fun
  | [d] => { results := [.lit (.bool false)], args := [d] }
  | _ => none }
def LimitsUnlimitedWrongFalsely : Prop := limitsUnlimitedRow.holds Tryz.pinned (OpenSpec.ofChange limitsUnlimitedWrong)

/- THE SECOND FORM. 'bulk': how many values and letters a reading holds, each counted each time it is reached (what is shared counts as often as it is met; a slice's spare places count too). A statement '..UptoSaid' is the law's where the arguments, and the package variables that the reading takes, are together of bulk at most 1048576: NARROWER than '..Said'. Prove '..Said' where nothing that the law and all that it calls make is longer than what came in: it says more and counts as full. Else prove '..UptoSaid'. A law counts once. -/
mutual
def uptoBulk {H : Type} : DataW H → Nat
  | .lit (.string bytes) => bytes.length + 1
  | .lit _ => 1
  | .nil => 1
  | .ptr d => uptoBulk d + 1
  | .slice elems spare => uptoBulkAll elems + uptoBulkAll spare + 1
  | .agg parts => uptoBulkAll parts + 1
  | .iface _ d => uptoBulk d + 1
  | .map entries => uptoBulkEntries entries + 1
  | .held _ => 1
def uptoBulkAll {H : Type} : List (DataW H) → Nat
  | [] => 0
  | d :: r => uptoBulk d + uptoBulkAll r
def uptoBulkEntries {H : Type} : List (Lit × DataW H) → Nat
  | [] => 0
  | x :: r => uptoBulkEntry x + uptoBulkEntries r
def uptoBulkEntry {H : Type} : Lit × DataW H → Nat
  | (.string bytes, d) => bytes.length + uptoBulk d + 1
  | (_, d) => uptoBulk d + 1
 end
def uptoSmall : (H : Type) → List (DataW H) → Bool := fun _ ds => decide (uptoBulkAll ds ≤ 1048576)
def OpenSpec.upto (s : _root_.Go.ChangeSpec) : _root_.Go.OpenSpec := { _root_.Go.OpenSpec.ofChange s with cond := some uptoSmall }

/-- 'kenninglaw21.FrameEncodes', WHERE WHAT IT READS IS OF BULK AT MOST 1048576: true; the input reads as it did. -/
def frameEncodesUptoRow : OpenClaim := { program := "ytdnjfnofjaoajaagreatdoor", sum := "0a30a10f50660d7b73735e765808d5ee4446b261e6a0b07df4514caf8d5ad803", func := "kenning/kenninglaw21.FrameEncodes", spec := "frameEncodes", inPlace := ["internal/reflectlite.ValueOf", "(internal/reflectlite.Value).Type", "(internal/reflectlite.Value).IsNil", "internal/reflectlite.TypeOf", "(internal/reflectlite.Value).Elem", "(internal/reflectlite.Value).Set", "slices.overlaps[uint64]", "slices.overlaps[kenning/api.Fragment]"], unfollowed := true, recurses := true, named := ["errors.errorType"], apart := false, laid := [("errors.errorType", laid_errors_errorType)], narrowed := true }
def FrameEncodesUptoSaid : Prop := frameEncodesUptoRow.holds Tryz.pinned (OpenSpec.upto frameEncodesSpec)

/-- 'kenninglaw19.WireDecodes', WHERE WHAT IT READS IS OF BULK AT MOST 1048576: true; the input reads as it did. -/
def wireDecodesUptoRow : OpenClaim := { program := "ytdnjfnofjaoajaagreatdoor", sum := "0a30a10f50660d7b73735e765808d5ee4446b261e6a0b07df4514caf8d5ad803", func := "kenning/kenninglaw19.WireDecodes", spec := "wireDecodes", inPlace := ["internal/reflectlite.ValueOf", "(internal/reflectlite.Value).Type", "(internal/reflectlite.Value).IsNil", "internal/reflectlite.TypeOf", "(internal/reflectlite.Value).Elem", "(internal/reflectlite.Value).Set", "slices.overlaps[uint64]", "slices.overlaps[kenning/api.Fragment]"], unfollowed := true, recurses := true, named := ["errors.errorType"], apart := false, laid := [("errors.errorType", laid_errors_errorType)], narrowed := true }
def WireDecodesUptoSaid : Prop := wireDecodesUptoRow.holds Tryz.pinned (OpenSpec.upto wireDecodesSpec)

/-- 'kenninglaw19.WireSteps', WHERE WHAT IT READS IS OF BULK AT MOST 1048576: true; the input reads as it did. -/
def wireStepsUptoRow : OpenClaim := { program := "ytdnjfnofjaoajaagreatdoor", sum := "0a30a10f50660d7b73735e765808d5ee4446b261e6a0b07df4514caf8d5ad803", func := "kenning/kenninglaw19.WireSteps", spec := "wireSteps", inPlace := ["internal/reflectlite.ValueOf", "(internal/reflectlite.Value).Type", "(internal/reflectlite.Value).IsNil", "internal/reflectlite.TypeOf", "(internal/reflectlite.Value).Elem", "(internal/reflectlite.Value).Set", "slices.overlaps[uint64]", "slices.overlaps[kenning/api.Fragment]"], unfollowed := true, recurses := true, named := ["errors.errorType"], apart := false, laid := [("errors.errorType", laid_errors_errorType)], narrowed := true }
def WireStepsUptoSaid : Prop := wireStepsUptoRow.holds Tryz.pinned (OpenSpec.upto wireStepsSpec)

/-- 'kenninglaw19.WireCuts', WHERE WHAT IT READS IS OF BULK AT MOST 1048576: true; the input reads as it did. -/
def wireCutsUptoRow : OpenClaim := { program := "ytdnjfnofjaoajaagreatdoor", sum := "0a30a10f50660d7b73735e765808d5ee4446b261e6a0b07df4514caf8d5ad803", func := "kenning/kenninglaw19.WireCuts", spec := "wireCuts", inPlace := ["internal/reflectlite.ValueOf", "(internal/reflectlite.Value).Type", "(internal/reflectlite.Value).IsNil", "internal/reflectlite.TypeOf", "(internal/reflectlite.Value).Elem", "(internal/reflectlite.Value).Set", "slices.overlaps[uint64]", "slices.overlaps[kenning/api.Fragment]"], unfollowed := true, recurses := true, named := ["errors.errorType"], apart := false, laid := [("errors.errorType", laid_errors_errorType)], narrowed := true }
def WireCutsUptoSaid : Prop := wireCutsUptoRow.holds Tryz.pinned (OpenSpec.upto wireCutsSpec)

/-- 'kenninglaw19.WireDiffers', WHERE WHAT IT READS IS OF BULK AT MOST 1048576: true; the input reads as it did. -/
def wireDiffersUptoRow : OpenClaim := { program := "ytdnjfnofjaoajaagreatdoor", sum := "0a30a10f50660d7b73735e765808d5ee4446b261e6a0b07df4514caf8d5ad803", func := "kenning/kenninglaw19.WireDiffers", spec := "wireDiffers", inPlace := ["internal/reflectlite.ValueOf", "(internal/reflectlite.Value).Type", "(internal/reflectlite.Value).IsNil", "internal/reflectlite.TypeOf", "(internal/reflectlite.Value).Elem", "(internal/reflectlite.Value).Set", "slices.overlaps[uint64]", "slices.overlaps[kenning/api.Fragment]"], unfollowed := true, recurses := true, named := ["errors.errorType"], apart := false, laid := [("errors.errorType", laid_errors_errorType)], narrowed := true }
def WireDiffersUptoSaid : Prop := wireDiffersUptoRow.holds Tryz.pinned (OpenSpec.upto wireDiffersSpec)

/-- 'kenninglaw19.WireEncodes', WHERE WHAT IT READS IS OF BULK AT MOST 1048576: true; the input reads as it did. -/
def wireEncodesUptoRow : OpenClaim := { program := "ytdnjfnofjaoajaagreatdoor", sum := "0a30a10f50660d7b73735e765808d5ee4446b261e6a0b07df4514caf8d5ad803", func := "kenning/kenninglaw19.WireEncodes", spec := "wireEncodes", inPlace := ["internal/reflectlite.ValueOf", "(internal/reflectlite.Value).Type", "(internal/reflectlite.Value).IsNil", "internal/reflectlite.TypeOf", "(internal/reflectlite.Value).Elem", "(internal/reflectlite.Value).Set", "slices.overlaps[uint64]", "slices.overlaps[kenning/api.Fragment]"], unfollowed := true, recurses := true, named := ["errors.errorType"], apart := false, laid := [("errors.errorType", laid_errors_errorType)], narrowed := true }
def WireEncodesUptoSaid : Prop := wireEncodesUptoRow.holds Tryz.pinned (OpenSpec.upto wireEncodesSpec)

/-- 'kenninglaw19.WireIsCanonical', WHERE WHAT IT READS IS OF BULK AT MOST 1048576: true; the input reads as it did. -/
def wireIsCanonicalUptoRow : OpenClaim := { program := "ytdnjfnofjaoajaagreatdoor", sum := "0a30a10f50660d7b73735e765808d5ee4446b261e6a0b07df4514caf8d5ad803", func := "kenning/kenninglaw19.WireIsCanonical", spec := "wireIsCanonical", inPlace := ["internal/reflectlite.ValueOf", "(internal/reflectlite.Value).Type", "(internal/reflectlite.Value).IsNil", "internal/reflectlite.TypeOf", "(internal/reflectlite.Value).Elem", "(internal/reflectlite.Value).Set", "slices.overlaps[uint64]", "slices.overlaps[kenning/api.Fragment]"], unfollowed := true, recurses := true, named := ["errors.errorType", "kenning/canon.codes"], apart := false, laid := [("errors.errorType", laid_errors_errorType), ("kenning/canon.codes", laid_kenning_canon_codes)], narrowed := true }
def WireIsCanonicalUptoSaid : Prop := wireIsCanonicalUptoRow.holds Tryz.pinned (OpenSpec.upto wireIsCanonicalSpec)

/-- 'kenninglaw22.LimitsDecode', WHERE WHAT IT READS IS OF BULK AT MOST 1048576: true; the input reads as it did. -/
def limitsDecodeUptoRow : OpenClaim := { program := "ytdnjfnofjaoajaagreatdoor", sum := "0a30a10f50660d7b73735e765808d5ee4446b261e6a0b07df4514caf8d5ad803", func := "kenning/kenninglaw22.LimitsDecode", spec := "limitsDecode", inPlace := ["internal/reflectlite.ValueOf", "(internal/reflectlite.Value).Type", "(internal/reflectlite.Value).IsNil", "internal/reflectlite.TypeOf", "(internal/reflectlite.Value).Elem", "(internal/reflectlite.Value).Set", "slices.overlaps[uint64]", "slices.overlaps[kenning/api.Fragment]"], unfollowed := true, recurses := true, named := ["errors.errorType"], apart := false, laid := [("errors.errorType", laid_errors_errorType)], narrowed := true }
def LimitsDecodeUptoSaid : Prop := limitsDecodeUptoRow.holds Tryz.pinned (OpenSpec.upto limitsDecodeSpec)

/-- 'kenninglaw22.LimitsUnlimited', WHERE WHAT IT READS IS OF BULK AT MOST 1048576: true; the input reads as it did. -/
def limitsUnlimitedUptoRow : OpenClaim := { program := "ytdnjfnofjaoajaagreatdoor", sum := "0a30a10f50660d7b73735e765808d5ee4446b261e6a0b07df4514caf8d5ad803", func := "kenning/kenninglaw22.LimitsUnlimited", spec := "limitsUnlimited", inPlace := ["internal/reflectlite.ValueOf", "(internal/reflectlite.Value).Type", "(internal/reflectlite.Value).IsNil", "internal/reflectlite.TypeOf", "(internal/reflectlite.Value).Elem", "(internal/reflectlite.Value).Set", "slices.overlaps[uint64]", "slices.overlaps[kenning/api.Fragment]"], unfollowed := true, recurses := true, named := ["errors.errorType"], apart := false, laid := [("errors.errorType", laid_errors_errorType)], narrowed := true }
def LimitsUnlimitedUptoSaid : Prop := limitsUnlimitedUptoRow.holds Tryz.pinned (OpenSpec.upto limitsUnlimitedSpec)

end Rows
end Go.Proofs.YtdnjfnofjaoajaaGreatDoor
