/-
  NARROWER THAN 'FOR EVERY INPUT', by the rows' own cells (each row's printed sentence says how): WireDecodes: laid · WireSteps: laid · StreamChunks: laid · StreamBounds: laid · StreamSteps: laid · StreamRests: laid · StreamEnds: laid · OneshotParses: laid · OneshotStops: laid · OneshotBegins: laid · OneshotErrors: laid · StreamPrefixes: laid.
  DERIVED. THE GIVEN ROWS OF THIS SEAT. 12 by the template 'for every input the law returns true; each argument reads behind the call as it read before'; 0 by the template 'total and deterministic' (their statements: YtdnipikdddfhfaaGreatDoorTotals.lean).
  GIVEN WITH THE SEED: the statements are not yours to turn. If you find one false, say at which input.
  Laid BY PROGRAM, IN A SANDBOX (cutbox-rows.mjs): the forced cells as the released guide's own fill.sh prints them over the translation d55b9349b91ff5d2… (all of the seat's roots in one cut). By AI agents, Wed Nov 11 2026. No macro, syntax, notation, axiom, sorry.
-/
import Derived.Test.YtdnipikdddfhfaaGreatDoorChecked
import GoSem.Claim
import GoSem.ClaimJoined
import GoSem.ClaimMapViews
import Derived.JoinedTies
import Derived.KernelRfl
namespace Go.Proofs.YtdnipikdddfhfaaGreatDoor
/- THE CELL 'sum', in the pinned program and in every row, IS THE sha256 OF THE DUMP (.gsa) THAT YtdnipikdddfhfaaGreatDoorProg.lean LOADS. Nothing in Lean hashes anything: it is a label: what it is worth is what the hold of that sum in a sandbox is worth. -/
noncomputable def Tryz.pinned : Pinned := { name := "ytdnipikdddfhfaagreatdoor", sum := "d55b9349b91ff5d2321ab7d1860a090beba73818965343628fabc6935fb25897", checked := Tryz.checked }
namespace Rows
def none {H : Type} : Left H := { results := [], args := [] }

/- WHAT THE LISTED PACKAGE-LEVEL VARIABLES READ AS WHEN THE CALL BEGINS. Each datum BY PROGRAM (the guide's laid-datum.mjs) off the statement by which the dump's own 'gosem.cut.vars' lays the variable. In a bare row this is a premise. The card (YtdnipikdddfhfaaGreatDoorCards.lean) ties it to the program's text. -/
def laid_errors_errorType {H : Type} : DataW H := .iface "internal/reflectlite.rtype" (.agg [.ptr (.lit (.string [101, 114, 114, 111, 114]))])

/-- 'kenninglaw19.WireDecodes': WHATEVER THE INPUT: true; the input reads as it did. -/
def wireDecodesSpec : ChangeSpec := { name := "wireDecodes", fn := fun _ => fun
  | [d1, d2] => { results := [.lit (.bool true)], args := [d1, d2] }
  | _ => none }
def wireDecodesRow : OpenClaim := { program := "ytdnipikdddfhfaagreatdoor", sum := "d55b9349b91ff5d2321ab7d1860a090beba73818965343628fabc6935fb25897", func := "kenning/kenninglaw19.WireDecodes", spec := "wireDecodes", inPlace := ["internal/reflectlite.ValueOf", "(internal/reflectlite.Value).Type", "(internal/reflectlite.Value).IsNil", "internal/reflectlite.TypeOf", "(internal/reflectlite.Value).Elem", "(internal/reflectlite.Value).Set", "slices.overlaps[uint64]", "slices.overlaps[kenning/api.Fragment]"], unfollowed := true, recurses := true, named := ["errors.errorType"], apart := false, laid := [("errors.errorType", laid_errors_errorType)] }
def WireDecodesSaid : Prop := wireDecodesRow.holds Tryz.pinned (OpenSpec.ofChange wireDecodesSpec)

/-- ITS FALSE NEIGHBOUR: 'it returns false'. Refute it at one input. -/
def wireDecodesWrong : ChangeSpec := { name := "wireDecodes", fn := fun _ => fun
  | [d1, d2] => { results := [.lit (.bool false)], args := [d1, d2] }
  | _ => none }
def WireDecodesWrongFalsely : Prop := wireDecodesRow.holds Tryz.pinned (OpenSpec.ofChange wireDecodesWrong)

/-- 'kenninglaw19.WireSteps': WHATEVER THE INPUT: true; the input reads as it did. -/
def wireStepsSpec : ChangeSpec := { name := "wireSteps", fn := fun _ => fun
  | [d1, d2, d3] => { results := [.lit (.bool true)], args := [d1, d2, d3] }
  | _ => none }
def wireStepsRow : OpenClaim := { program := "ytdnipikdddfhfaagreatdoor", sum := "d55b9349b91ff5d2321ab7d1860a090beba73818965343628fabc6935fb25897", func := "kenning/kenninglaw19.WireSteps", spec := "wireSteps", inPlace := ["internal/reflectlite.ValueOf", "(internal/reflectlite.Value).Type", "(internal/reflectlite.Value).IsNil", "internal/reflectlite.TypeOf", "(internal/reflectlite.Value).Elem", "(internal/reflectlite.Value).Set", "slices.overlaps[uint64]", "slices.overlaps[kenning/api.Fragment]"], unfollowed := true, recurses := true, named := ["errors.errorType"], apart := false, laid := [("errors.errorType", laid_errors_errorType)] }
def WireStepsSaid : Prop := wireStepsRow.holds Tryz.pinned (OpenSpec.ofChange wireStepsSpec)

/-- ITS FALSE NEIGHBOUR: 'it returns false'. Refute it at one input. -/
def wireStepsWrong : ChangeSpec := { name := "wireSteps", fn := fun _ => fun
  | [d1, d2, d3] => { results := [.lit (.bool false)], args := [d1, d2, d3] }
  | _ => none }
def WireStepsWrongFalsely : Prop := wireStepsRow.holds Tryz.pinned (OpenSpec.ofChange wireStepsWrong)

/-- 'kenninglaw24.StreamChunks': WHATEVER THE INPUT: true; the input reads as it did. -/
def streamChunksSpec : ChangeSpec := { name := "streamChunks", fn := fun _ => fun
  | [d1, d2, d3] => { results := [.lit (.bool true)], args := [d1, d2, d3] }
  | _ => none }
def streamChunksRow : OpenClaim := { program := "ytdnipikdddfhfaagreatdoor", sum := "d55b9349b91ff5d2321ab7d1860a090beba73818965343628fabc6935fb25897", func := "kenning/kenninglaw24.StreamChunks", spec := "streamChunks", inPlace := ["internal/reflectlite.ValueOf", "(internal/reflectlite.Value).Type", "(internal/reflectlite.Value).IsNil", "internal/reflectlite.TypeOf", "(internal/reflectlite.Value).Elem", "(internal/reflectlite.Value).Set", "slices.overlaps[uint64]", "slices.overlaps[kenning/api.Fragment]"], unfollowed := true, recurses := true, named := ["errors.errorType"], apart := false, laid := [("errors.errorType", laid_errors_errorType)] }
def StreamChunksSaid : Prop := streamChunksRow.holds Tryz.pinned (OpenSpec.ofChange streamChunksSpec)

/-- ITS FALSE NEIGHBOUR: 'it returns false'. Refute it at one input. -/
def streamChunksWrong : ChangeSpec := { name := "streamChunks", fn := fun _ => fun
  | [d1, d2, d3] => { results := [.lit (.bool false)], args := [d1, d2, d3] }
  | _ => none }
def StreamChunksWrongFalsely : Prop := streamChunksRow.holds Tryz.pinned (OpenSpec.ofChange streamChunksWrong)

/-- 'kenninglaw24.StreamBounds': WHATEVER THE INPUT: true; the input reads as it did. -/
def streamBoundsSpec : ChangeSpec := { name := "streamBounds", fn := fun _ => fun
  | [d1, d2] => { results := [.lit (.bool true)], args := [d1, d2] }
  | _ => none }
def streamBoundsRow : OpenClaim := { program := "ytdnipikdddfhfaagreatdoor", sum := "d55b9349b91ff5d2321ab7d1860a090beba73818965343628fabc6935fb25897", func := "kenning/kenninglaw24.StreamBounds", spec := "streamBounds", inPlace := ["internal/reflectlite.ValueOf", "(internal/reflectlite.Value).Type", "(internal/reflectlite.Value).IsNil", "internal/reflectlite.TypeOf", "(internal/reflectlite.Value).Elem", "(internal/reflectlite.Value).Set", "slices.overlaps[uint64]", "slices.overlaps[kenning/api.Fragment]"], unfollowed := true, recurses := true, named := ["errors.errorType"], apart := false, laid := [("errors.errorType", laid_errors_errorType)] }
def StreamBoundsSaid : Prop := streamBoundsRow.holds Tryz.pinned (OpenSpec.ofChange streamBoundsSpec)

/-- ITS FALSE NEIGHBOUR: 'it returns false'. Refute it at one input. -/
def streamBoundsWrong : ChangeSpec := { name := "streamBounds", fn := fun _ => fun
  | [d1, d2] => { results := [.lit (.bool false)], args := [d1, d2] }
  | _ => none }
def StreamBoundsWrongFalsely : Prop := streamBoundsRow.holds Tryz.pinned (OpenSpec.ofChange streamBoundsWrong)

/-- 'kenninglaw24.StreamSteps': WHATEVER THE INPUT: true; the input reads as it did. -/
def streamStepsSpec : ChangeSpec := { name := "streamSteps", fn := fun _ => fun
  | [d1, d2, d3] => { results := [.lit (.bool true)], args := [d1, d2, d3] }
  | _ => none }
def streamStepsRow : OpenClaim := { program := "ytdnipikdddfhfaagreatdoor", sum := "d55b9349b91ff5d2321ab7d1860a090beba73818965343628fabc6935fb25897", func := "kenning/kenninglaw24.StreamSteps", spec := "streamSteps", inPlace := ["internal/reflectlite.ValueOf", "(internal/reflectlite.Value).Type", "(internal/reflectlite.Value).IsNil", "internal/reflectlite.TypeOf", "(internal/reflectlite.Value).Elem", "(internal/reflectlite.Value).Set", "slices.overlaps[uint64]", "slices.overlaps[kenning/api.Fragment]"], unfollowed := true, recurses := true, named := ["errors.errorType"], apart := false, laid := [("errors.errorType", laid_errors_errorType)] }
def StreamStepsSaid : Prop := streamStepsRow.holds Tryz.pinned (OpenSpec.ofChange streamStepsSpec)

/-- ITS FALSE NEIGHBOUR: 'it returns false'. Refute it at one input. -/
def streamStepsWrong : ChangeSpec := { name := "streamSteps", fn := fun _ => fun
  | [d1, d2, d3] => { results := [.lit (.bool false)], args := [d1, d2, d3] }
  | _ => none }
def StreamStepsWrongFalsely : Prop := streamStepsRow.holds Tryz.pinned (OpenSpec.ofChange streamStepsWrong)

/-- 'kenninglaw24.StreamRests': WHATEVER THE INPUT: true; the input reads as it did. -/
def streamRestsSpec : ChangeSpec := { name := "streamRests", fn := fun _ => fun
  | [d1, d2, d3] => { results := [.lit (.bool true)], args := [d1, d2, d3] }
  | _ => none }
def streamRestsRow : OpenClaim := { program := "ytdnipikdddfhfaagreatdoor", sum := "d55b9349b91ff5d2321ab7d1860a090beba73818965343628fabc6935fb25897", func := "kenning/kenninglaw24.StreamRests", spec := "streamRests", inPlace := ["internal/reflectlite.ValueOf", "(internal/reflectlite.Value).Type", "(internal/reflectlite.Value).IsNil", "internal/reflectlite.TypeOf", "(internal/reflectlite.Value).Elem", "(internal/reflectlite.Value).Set", "slices.overlaps[uint64]", "slices.overlaps[kenning/api.Fragment]"], unfollowed := true, recurses := true, named := ["errors.errorType"], apart := false, laid := [("errors.errorType", laid_errors_errorType)] }
def StreamRestsSaid : Prop := streamRestsRow.holds Tryz.pinned (OpenSpec.ofChange streamRestsSpec)

/-- ITS FALSE NEIGHBOUR: 'it returns false'. Refute it at one input. -/
def streamRestsWrong : ChangeSpec := { name := "streamRests", fn := fun _ => fun
  | [d1, d2, d3] => { results := [.lit (.bool false)], args := [d1, d2, d3] }
  | _ => none }
def StreamRestsWrongFalsely : Prop := streamRestsRow.holds Tryz.pinned (OpenSpec.ofChange streamRestsWrong)

/-- 'kenninglaw24.StreamEnds': WHATEVER THE INPUT: true; the input reads as it did. -/
def streamEndsSpec : ChangeSpec := { name := "streamEnds", fn := fun _ => fun
  | [d1, d2] => { results := [.lit (.bool true)], args := [d1, d2] }
  | _ => none }
def streamEndsRow : OpenClaim := { program := "ytdnipikdddfhfaagreatdoor", sum := "d55b9349b91ff5d2321ab7d1860a090beba73818965343628fabc6935fb25897", func := "kenning/kenninglaw24.StreamEnds", spec := "streamEnds", inPlace := ["internal/reflectlite.ValueOf", "(internal/reflectlite.Value).Type", "(internal/reflectlite.Value).IsNil", "internal/reflectlite.TypeOf", "(internal/reflectlite.Value).Elem", "(internal/reflectlite.Value).Set", "slices.overlaps[uint64]", "slices.overlaps[kenning/api.Fragment]"], unfollowed := true, recurses := true, named := ["errors.errorType"], apart := false, laid := [("errors.errorType", laid_errors_errorType)] }
def StreamEndsSaid : Prop := streamEndsRow.holds Tryz.pinned (OpenSpec.ofChange streamEndsSpec)

/-- ITS FALSE NEIGHBOUR: 'it returns false'. Refute it at one input. -/
def streamEndsWrong : ChangeSpec := { name := "streamEnds", fn := fun _ => fun
  | [d1, d2] => { results := [.lit (.bool false)], args := [d1, d2] }
  | _ => none }
def StreamEndsWrongFalsely : Prop := streamEndsRow.holds Tryz.pinned (OpenSpec.ofChange streamEndsWrong)

/-- 'kenninglaw23.OneshotParses': WHATEVER THE INPUT: true; the input reads as it did. -/
def oneshotParsesSpec : ChangeSpec := { name := "oneshotParses", fn := fun _ => fun
  | [d1, d2] => { results := [.lit (.bool true)], args := [d1, d2] }
  | _ => none }
def oneshotParsesRow : OpenClaim := { program := "ytdnipikdddfhfaagreatdoor", sum := "d55b9349b91ff5d2321ab7d1860a090beba73818965343628fabc6935fb25897", func := "kenning/kenninglaw23.OneshotParses", spec := "oneshotParses", inPlace := ["internal/reflectlite.ValueOf", "(internal/reflectlite.Value).Type", "(internal/reflectlite.Value).IsNil", "internal/reflectlite.TypeOf", "(internal/reflectlite.Value).Elem", "(internal/reflectlite.Value).Set", "slices.overlaps[uint64]", "slices.overlaps[kenning/api.Fragment]"], unfollowed := true, recurses := true, named := ["errors.errorType"], apart := false, laid := [("errors.errorType", laid_errors_errorType)] }
def OneshotParsesSaid : Prop := oneshotParsesRow.holds Tryz.pinned (OpenSpec.ofChange oneshotParsesSpec)

/-- ITS FALSE NEIGHBOUR: 'it returns false'. Refute it at one input. -/
def oneshotParsesWrong : ChangeSpec := { name := "oneshotParses", fn := fun _ => fun
  | [d1, d2] => { results := [.lit (.bool false)], args := [d1, d2] }
  | _ => none }
def OneshotParsesWrongFalsely : Prop := oneshotParsesRow.holds Tryz.pinned (OpenSpec.ofChange oneshotParsesWrong)

/-- 'kenninglaw23.OneshotStops': WHATEVER THE INPUT: true; the input reads as it did. -/
def oneshotStopsSpec : ChangeSpec := { name := "oneshotStops", fn := fun _ => fun
  | [d1, d2] => { results := [.lit (.bool true)], args := [d1, d2] }
  | _ => none }
def oneshotStopsRow : OpenClaim := { program := "ytdnipikdddfhfaagreatdoor", sum := "d55b9349b91ff5d2321ab7d1860a090beba73818965343628fabc6935fb25897", func := "kenning/kenninglaw23.OneshotStops", spec := "oneshotStops", inPlace := ["internal/reflectlite.ValueOf", "(internal/reflectlite.Value).Type", "(internal/reflectlite.Value).IsNil", "internal/reflectlite.TypeOf", "(internal/reflectlite.Value).Elem", "(internal/reflectlite.Value).Set", "slices.overlaps[uint64]", "slices.overlaps[kenning/api.Fragment]"], unfollowed := true, recurses := true, named := ["errors.errorType"], apart := false, laid := [("errors.errorType", laid_errors_errorType)] }
def OneshotStopsSaid : Prop := oneshotStopsRow.holds Tryz.pinned (OpenSpec.ofChange oneshotStopsSpec)

/-- ITS FALSE NEIGHBOUR: 'it returns false'. Refute it at one input. -/
def oneshotStopsWrong : ChangeSpec := { name := "oneshotStops", fn := fun _ => fun
  | [d1, d2] => { results := [.lit (.bool false)], args := [d1, d2] }
  | _ => none }
def OneshotStopsWrongFalsely : Prop := oneshotStopsRow.holds Tryz.pinned (OpenSpec.ofChange oneshotStopsWrong)

/-- 'kenninglaw23.OneshotBegins': WHATEVER THE INPUT: true; the input reads as it did. -/
def oneshotBeginsSpec : ChangeSpec := { name := "oneshotBegins", fn := fun _ => fun
  | [d1, d2, d3] => { results := [.lit (.bool true)], args := [d1, d2, d3] }
  | _ => none }
def oneshotBeginsRow : OpenClaim := { program := "ytdnipikdddfhfaagreatdoor", sum := "d55b9349b91ff5d2321ab7d1860a090beba73818965343628fabc6935fb25897", func := "kenning/kenninglaw23.OneshotBegins", spec := "oneshotBegins", inPlace := ["internal/reflectlite.ValueOf", "(internal/reflectlite.Value).Type", "(internal/reflectlite.Value).IsNil", "internal/reflectlite.TypeOf", "(internal/reflectlite.Value).Elem", "(internal/reflectlite.Value).Set", "slices.overlaps[uint64]", "slices.overlaps[kenning/api.Fragment]"], unfollowed := true, recurses := true, named := ["errors.errorType"], apart := false, laid := [("errors.errorType", laid_errors_errorType)] }
def OneshotBeginsSaid : Prop := oneshotBeginsRow.holds Tryz.pinned (OpenSpec.ofChange oneshotBeginsSpec)

/-- ITS FALSE NEIGHBOUR: 'it returns false'. Refute it at one input. -/
def oneshotBeginsWrong : ChangeSpec := { name := "oneshotBegins", fn := fun _ => fun
  | [d1, d2, d3] => { results := [.lit (.bool false)], args := [d1, d2, d3] }
  | _ => none }
def OneshotBeginsWrongFalsely : Prop := oneshotBeginsRow.holds Tryz.pinned (OpenSpec.ofChange oneshotBeginsWrong)

/-- 'kenninglaw23.OneshotErrors': WHATEVER THE INPUT: true; the input reads as it did. -/
def oneshotErrorsSpec : ChangeSpec := { name := "oneshotErrors", fn := fun _ => fun
  | [d1, d2] => { results := [.lit (.bool true)], args := [d1, d2] }
  | _ => none }
def oneshotErrorsRow : OpenClaim := { program := "ytdnipikdddfhfaagreatdoor", sum := "d55b9349b91ff5d2321ab7d1860a090beba73818965343628fabc6935fb25897", func := "kenning/kenninglaw23.OneshotErrors", spec := "oneshotErrors", inPlace := ["internal/reflectlite.ValueOf", "(internal/reflectlite.Value).Type", "(internal/reflectlite.Value).IsNil", "internal/reflectlite.TypeOf", "(internal/reflectlite.Value).Elem", "(internal/reflectlite.Value).Set", "slices.overlaps[uint64]", "slices.overlaps[kenning/api.Fragment]"], unfollowed := true, recurses := true, named := ["errors.errorType"], apart := false, laid := [("errors.errorType", laid_errors_errorType)] }
def OneshotErrorsSaid : Prop := oneshotErrorsRow.holds Tryz.pinned (OpenSpec.ofChange oneshotErrorsSpec)

/-- ITS FALSE NEIGHBOUR: 'it returns false'. Refute it at one input. -/
def oneshotErrorsWrong : ChangeSpec := { name := "oneshotErrors", fn := fun _ => fun
  | [d1, d2] => { results := [.lit (.bool false)], args := [d1, d2] }
  | _ => none }
def OneshotErrorsWrongFalsely : Prop := oneshotErrorsRow.holds Tryz.pinned (OpenSpec.ofChange oneshotErrorsWrong)

/-- 'kenninglaw24.StreamPrefixes': WHATEVER THE INPUT: true; the input reads as it did. -/
def streamPrefixesSpec : ChangeSpec := { name := "streamPrefixes", fn := fun _ => fun
  | [d1, d2, d3] => { results := [.lit (.bool true)], args := [d1, d2, d3] }
  | _ => none }
def streamPrefixesRow : OpenClaim := { program := "ytdnipikdddfhfaagreatdoor", sum := "d55b9349b91ff5d2321ab7d1860a090beba73818965343628fabc6935fb25897", func := "kenning/kenninglaw24.StreamPrefixes", spec := "streamPrefixes", inPlace := ["internal/reflectlite.ValueOf", "(internal/reflectlite.Value).Type", "(internal/reflectlite.Value).IsNil", "internal/reflectlite.TypeOf", "(internal/reflectlite.Value).Elem", "(internal/reflectlite.Value).Set", "slices.overlaps[uint64]", "slices.overlaps[kenning/api.Fragment]"], unfollowed := true, recurses := true, named := ["errors.errorType"], apart := false, laid := [("errors.errorType", laid_errors_errorType)] }
def StreamPrefixesSaid : Prop := streamPrefixesRow.holds Tryz.pinned (OpenSpec.ofChange streamPrefixesSpec)

/-- ITS FALSE NEIGHBOUR: 'it returns false'. Refute it at one input. -/
def streamPrefixesWrong : ChangeSpec := { name := "streamPrefixes", fn := fun _ => fun
  | [d1, d2, d3] => { results := [.lit (.bool false)], args := [d1, d2, d3] }
  | _ => none }
def StreamPrefixesWrongFalsely : Prop := streamPrefixesRow.holds Tryz.pinned (OpenSpec.ofChange streamPrefixesWrong)

/- THE SECOND FORM. 'bulk': how many values and letters a reading holds, each counted each time it is reached (what is shared counts as often as it is met; a slice's spare places count too). A statement '..UptoSaid' is the law's where the arguments, and the package variables that the reading takes, are together of bulk at most 1048576: NARROWER than '..Said'. Prove '..Said' where nothing that the law and all that it calls make is longer than what came in: it says more and counts as full. Else prove '..UptoSaid'. A law counts once. -/
mutual
def uptoBulk {H : Type} : DataW H → Nat
  | .lit (.string bytes) => bytes.length + 1
  | .lit _ => 1
  | .nil => 1
  | .ptr d => uptoBulk d + 1
  | .slice elems spare => uptoBulkAll elems + uptoBulkAll spare + 1
  | .agg parts => uptoBulkAll parts + 1
  | .iface _ d => uptoBulk d + 1
  | .map entries => uptoBulkEntries entries + 1
  | .held _ => 1
def uptoBulkAll {H : Type} : List (DataW H) → Nat
  | [] => 0
  | d :: r => uptoBulk d + uptoBulkAll r
def uptoBulkEntries {H : Type} : List (Lit × DataW H) → Nat
  | [] => 0
  | x :: r => uptoBulkEntry x + uptoBulkEntries r
def uptoBulkEntry {H : Type} : Lit × DataW H → Nat
  | (.string bytes, d) => bytes.length + uptoBulk d + 1
  | (_, d) => uptoBulk d + 1
 end
def uptoSmall : (H : Type) → List (DataW H) → Bool := fun _ ds => decide (uptoBulkAll ds ≤ 1048576)
def OpenSpec.upto (s : _root_.Go.ChangeSpec) : _root_.Go.OpenSpec := { _root_.Go.OpenSpec.ofChange s with cond := some uptoSmall }

/-- 'kenninglaw19.WireDecodes', WHERE WHAT IT READS IS OF BULK AT MOST 1048576: true; the input reads as it did. -/
def wireDecodesUptoRow : OpenClaim := { program := "ytdnipikdddfhfaagreatdoor", sum := "d55b9349b91ff5d2321ab7d1860a090beba73818965343628fabc6935fb25897", func := "kenning/kenninglaw19.WireDecodes", spec := "wireDecodes", inPlace := ["internal/reflectlite.ValueOf", "(internal/reflectlite.Value).Type", "(internal/reflectlite.Value).IsNil", "internal/reflectlite.TypeOf", "(internal/reflectlite.Value).Elem", "(internal/reflectlite.Value).Set", "slices.overlaps[uint64]", "slices.overlaps[kenning/api.Fragment]"], unfollowed := true, recurses := true, named := ["errors.errorType"], apart := false, laid := [("errors.errorType", laid_errors_errorType)], narrowed := true }
def WireDecodesUptoSaid : Prop := wireDecodesUptoRow.holds Tryz.pinned (OpenSpec.upto wireDecodesSpec)

/-- 'kenninglaw19.WireSteps', WHERE WHAT IT READS IS OF BULK AT MOST 1048576: true; the input reads as it did. -/
def wireStepsUptoRow : OpenClaim := { program := "ytdnipikdddfhfaagreatdoor", sum := "d55b9349b91ff5d2321ab7d1860a090beba73818965343628fabc6935fb25897", func := "kenning/kenninglaw19.WireSteps", spec := "wireSteps", inPlace := ["internal/reflectlite.ValueOf", "(internal/reflectlite.Value).Type", "(internal/reflectlite.Value).IsNil", "internal/reflectlite.TypeOf", "(internal/reflectlite.Value).Elem", "(internal/reflectlite.Value).Set", "slices.overlaps[uint64]", "slices.overlaps[kenning/api.Fragment]"], unfollowed := true, recurses := true, named := ["errors.errorType"], apart := false, laid := [("errors.errorType", laid_errors_errorType)], narrowed := true }
def WireStepsUptoSaid : Prop := wireStepsUptoRow.holds Tryz.pinned (OpenSpec.upto wireStepsSpec)

/-- 'kenninglaw24.StreamChunks', WHERE WHAT IT READS IS OF BULK AT MOST 1048576: true; the input reads as it did. -/
def streamChunksUptoRow : OpenClaim := { program := "ytdnipikdddfhfaagreatdoor", sum := "d55b9349b91ff5d2321ab7d1860a090beba73818965343628fabc6935fb25897", func := "kenning/kenninglaw24.StreamChunks", spec := "streamChunks", inPlace := ["internal/reflectlite.ValueOf", "(internal/reflectlite.Value).Type", "(internal/reflectlite.Value).IsNil", "internal/reflectlite.TypeOf", "(internal/reflectlite.Value).Elem", "(internal/reflectlite.Value).Set", "slices.overlaps[uint64]", "slices.overlaps[kenning/api.Fragment]"], unfollowed := true, recurses := true, named := ["errors.errorType"], apart := false, laid := [("errors.errorType", laid_errors_errorType)], narrowed := true }
def StreamChunksUptoSaid : Prop := streamChunksUptoRow.holds Tryz.pinned (OpenSpec.upto streamChunksSpec)

/-- 'kenninglaw24.StreamBounds', WHERE WHAT IT READS IS OF BULK AT MOST 1048576: true; the input reads as it did. -/
def streamBoundsUptoRow : OpenClaim := { program := "ytdnipikdddfhfaagreatdoor", sum := "d55b9349b91ff5d2321ab7d1860a090beba73818965343628fabc6935fb25897", func := "kenning/kenninglaw24.StreamBounds", spec := "streamBounds", inPlace := ["internal/reflectlite.ValueOf", "(internal/reflectlite.Value).Type", "(internal/reflectlite.Value).IsNil", "internal/reflectlite.TypeOf", "(internal/reflectlite.Value).Elem", "(internal/reflectlite.Value).Set", "slices.overlaps[uint64]", "slices.overlaps[kenning/api.Fragment]"], unfollowed := true, recurses := true, named := ["errors.errorType"], apart := false, laid := [("errors.errorType", laid_errors_errorType)], narrowed := true }
def StreamBoundsUptoSaid : Prop := streamBoundsUptoRow.holds Tryz.pinned (OpenSpec.upto streamBoundsSpec)

/-- 'kenninglaw24.StreamSteps', WHERE WHAT IT READS IS OF BULK AT MOST 1048576: true; the input reads as it did. -/
def streamStepsUptoRow : OpenClaim := { program := "ytdnipikdddfhfaagreatdoor", sum := "d55b9349b91ff5d2321ab7d1860a090beba73818965343628fabc6935fb25897", func := "kenning/kenninglaw24.StreamSteps", spec := "streamSteps", inPlace := ["internal/reflectlite.ValueOf", "(internal/reflectlite.Value).Type", "(internal/reflectlite.Value).IsNil", "internal/reflectlite.TypeOf", "(internal/reflectlite.Value).Elem", "(internal/reflectlite.Value).Set", "slices.overlaps[uint64]", "slices.overlaps[kenning/api.Fragment]"], unfollowed := true, recurses := true, named := ["errors.errorType"], apart := false, laid := [("errors.errorType", laid_errors_errorType)], narrowed := true }
def StreamStepsUptoSaid : Prop := streamStepsUptoRow.holds Tryz.pinned (OpenSpec.upto streamStepsSpec)

/-- 'kenninglaw24.StreamRests', WHERE WHAT IT READS IS OF BULK AT MOST 1048576: true; the input reads as it did. -/
def streamRestsUptoRow : OpenClaim := { program := "ytdnipikdddfhfaagreatdoor", sum := "d55b9349b91ff5d2321ab7d1860a090beba73818965343628fabc6935fb25897", func := "kenning/kenninglaw24.StreamRests", spec := "streamRests", inPlace := ["internal/reflectlite.ValueOf", "(internal/reflectlite.Value).Type", "(internal/reflectlite.Value).IsNil", "internal/reflectlite.TypeOf", "(internal/reflectlite.Value).Elem", "(internal/reflectlite.Value).Set", "slices.overlaps[uint64]", "slices.overlaps[kenning/api.Fragment]"], unfollowed := true, recurses := true, named := ["errors.errorType"], apart := false, laid := [("errors.errorType", laid_errors_errorType)], narrowed := true }
def StreamRestsUptoSaid : Prop := streamRestsUptoRow.holds Tryz.pinned (OpenSpec.upto streamRestsSpec)

/-- 'kenninglaw24.StreamEnds', WHERE WHAT IT READS IS OF BULK AT MOST 1048576: true; the input reads as it did. -/
def streamEndsUptoRow : OpenClaim := { program := "ytdnipikdddfhfaagreatdoor", sum := "d55b9349b91ff5d2321ab7d1860a090beba73818965343628fabc6935fb25897", func := "kenning/kenninglaw24.StreamEnds", spec := "streamEnds", inPlace := ["internal/reflectlite.ValueOf", "(internal/reflectlite.Value).Type", "(internal/reflectlite.Value).IsNil", "internal/reflectlite.TypeOf", "(internal/reflectlite.Value).Elem", "(internal/reflectlite.Value).Set", "slices.overlaps[uint64]", "slices.overlaps[kenning/api.Fragment]"], unfollowed := true, recurses := true, named := ["errors.errorType"], apart := false, laid := [("errors.errorType", laid_errors_errorType)], narrowed := true }
def StreamEndsUptoSaid : Prop := streamEndsUptoRow.holds Tryz.pinned (OpenSpec.upto streamEndsSpec)

/-- 'kenninglaw23.OneshotParses', WHERE WHAT IT READS IS OF BULK AT MOST 1048576: true; the input reads as it did. -/
def oneshotParsesUptoRow : OpenClaim := { program := "ytdnipikdddfhfaagreatdoor", sum := "d55b9349b91ff5d2321ab7d1860a090beba73818965343628fabc6935fb25897", func := "kenning/kenninglaw23.OneshotParses", spec := "oneshotParses", inPlace := ["internal/reflectlite.ValueOf", "(internal/reflectlite.Value).Type", "(internal/reflectlite.Value).IsNil", "internal/reflectlite.TypeOf", "(internal/reflectlite.Value).Elem", "(internal/reflectlite.Value).Set", "slices.overlaps[uint64]", "slices.overlaps[kenning/api.Fragment]"], unfollowed := true, recurses := true, named := ["errors.errorType"], apart := false, laid := [("errors.errorType", laid_errors_errorType)], narrowed := true }
def OneshotParsesUptoSaid : Prop := oneshotParsesUptoRow.holds Tryz.pinned (OpenSpec.upto oneshotParsesSpec)

/-- 'kenninglaw23.OneshotStops', WHERE WHAT IT READS IS OF BULK AT MOST 1048576: true; the input reads as it did. -/
def oneshotStopsUptoRow : OpenClaim := { program := "ytdnipikdddfhfaagreatdoor", sum := "d55b9349b91ff5d2321ab7d1860a090beba73818965343628fabc6935fb25897", func := "kenning/kenninglaw23.OneshotStops", spec := "oneshotStops", inPlace := ["internal/reflectlite.ValueOf", "(internal/reflectlite.Value).Type", "(internal/reflectlite.Value).IsNil", "internal/reflectlite.TypeOf", "(internal/reflectlite.Value).Elem", "(internal/reflectlite.Value).Set", "slices.overlaps[uint64]", "slices.overlaps[kenning/api.Fragment]"], unfollowed := true, recurses := true, named := ["errors.errorType"], apart := false, laid := [("errors.errorType", laid_errors_errorType)], narrowed := true }
def OneshotStopsUptoSaid : Prop := oneshotStopsUptoRow.holds Tryz.pinned (OpenSpec.upto oneshotStopsSpec)

/-- 'kenninglaw23.OneshotBegins', WHERE WHAT IT READS IS OF BULK AT MOST 1048576: true; the input reads as it did. -/
def oneshotBeginsUptoRow : OpenClaim := { program := "ytdnipikdddfhfaagreatdoor", sum := "d55b9349b91ff5d2321ab7d1860a090beba73818965343628fabc6935fb25897", func := "kenning/kenninglaw23.OneshotBegins", spec := "oneshotBegins", inPlace := ["internal/reflectlite.ValueOf", "(internal/reflectlite.Value).Type", "(internal/reflectlite.Value).IsNil", "internal/reflectlite.TypeOf", "(internal/reflectlite.Value).Elem", "(internal/reflectlite.Value).Set", "slices.overlaps[uint64]", "slices.overlaps[kenning/api.Fragment]"], unfollowed := true, recurses := true, named := ["errors.errorType"], apart := false, laid := [("errors.errorType", laid_errors_errorType)], narrowed := true }
def OneshotBeginsUptoSaid : Prop := oneshotBeginsUptoRow.holds Tryz.pinned (OpenSpec.upto oneshotBeginsSpec)

/-- 'kenninglaw23.OneshotErrors', WHERE WHAT IT READS IS OF BULK AT MOST 1048576: true; the input reads as it did. -/
def oneshotErrorsUptoRow : OpenClaim := { program := "ytdnipikdddfhfaagreatdoor", sum := "d55b9349b91ff5d2321ab7d1860a090beba73818965343628fabc6935fb25897", func := "kenning/kenninglaw23.OneshotErrors", spec := "oneshotErrors", inPlace := ["internal/reflectlite.ValueOf", "(internal/reflectlite.Value).Type", "(internal/reflectlite.Value).IsNil", "internal/reflectlite.TypeOf", "(internal/reflectlite.Value).Elem", "(internal/reflectlite.Value).Set", "slices.overlaps[uint64]", "slices.overlaps[kenning/api.Fragment]"], unfollowed := true, recurses := true, named := ["errors.errorType"], apart := false, laid := [("errors.errorType", laid_errors_errorType)], narrowed := true }
def OneshotErrorsUptoSaid : Prop := oneshotErrorsUptoRow.holds Tryz.pinned (OpenSpec.upto oneshotErrorsSpec)

/-- 'kenninglaw24.StreamPrefixes', WHERE WHAT IT READS IS OF BULK AT MOST 1048576: true; the input reads as it did. -/
def streamPrefixesUptoRow : OpenClaim := { program := "ytdnipikdddfhfaagreatdoor", sum := "d55b9349b91ff5d2321ab7d1860a090beba73818965343628fabc6935fb25897", func := "kenning/kenninglaw24.StreamPrefixes", spec := "streamPrefixes", inPlace := ["internal/reflectlite.ValueOf", "(internal/reflectlite.Value).Type", "(internal/reflectlite.Value).IsNil", "internal/reflectlite.TypeOf", "(internal/reflectlite.Value).Elem", "(internal/reflectlite.Value).Set", "slices.overlaps[uint64]", "slices.overlaps[kenning/api.Fragment]"], unfollowed := true, recurses := true, named := ["errors.errorType"], apart := false, laid := [("errors.errorType", laid_errors_errorType)], narrowed := true }
def StreamPrefixesUptoSaid : Prop := streamPrefixesUptoRow.holds Tryz.pinned (OpenSpec.upto streamPrefixesSpec)

end Rows
end Go.Proofs.YtdnipikdddfhfaaGreatDoor
