/-
  NARROWER THAN 'FOR EVERY INPUT', by the rows' own cells (each row's printed sentence says how): TopAgrees: laid · TopStreams: laid · FrameEncodes: laid · WireSteps: laid · StreamChunks: laid · StreamSteps: laid · StreamRests: laid · OneshotReads: laid · OneshotStops: laid · OneshotOnce: laid · StreamPrefixes: laid.
  DERIVED. THE GIVEN ROWS OF THIS SEAT. 11 by the template 'for every input the law returns true; each argument reads behind the call as it read before'; 0 by the template 'total and deterministic' (their statements: YtmfhggnlainmiaaGreatDoorTotals.lean).
  GIVEN WITH THE SEED: the statements are not yours to turn. If you find one false, say at which input.
  Laid BY PROGRAM, IN A SANDBOX (cutbox-rows.mjs): the forced cells as the released guide's own fill.sh prints them over the translation dba5b6dbe090b274… (all of the seat's roots in one cut). By AI agents, Wed Nov 11 2026. No macro, syntax, notation, axiom, sorry.
-/
import Derived.Test.YtmfhggnlainmiaaGreatDoorChecked
import GoSem.Claim
import GoSem.ClaimJoined
import GoSem.ClaimMapViews
import Derived.JoinedTies
import Derived.KernelRfl
namespace Go.Proofs.YtmfhggnlainmiaaGreatDoor
/- THE CELL 'sum', in the pinned program and in every row, IS THE sha256 OF THE DUMP (.gsa) THAT YtmfhggnlainmiaaGreatDoorProg.lean LOADS. Nothing in Lean hashes anything: it is a label: what it is worth is what the hold of that sum in a sandbox is worth. -/
noncomputable def Tryz.pinned : Pinned := { name := "ytmfhggnlainmiaagreatdoor", sum := "dba5b6dbe090b2744b1b9f0301cd18c43aa8b167effc966617fab38a2441a08c", checked := Tryz.checked }
namespace Rows
def none {H : Type} : Left H := { results := [], args := [] }

/- WHAT THE LISTED PACKAGE-LEVEL VARIABLES READ AS WHEN THE CALL BEGINS. Each datum BY PROGRAM (the guide's laid-datum.mjs) off the statement by which the dump's own 'gosem.cut.vars' lays the variable. In a bare row this is a premise. The card (YtmfhggnlainmiaaGreatDoorCards.lean) ties it to the program's text. -/
def laid_errors_errorType {H : Type} : DataW H := .iface "internal/reflectlite.rtype" (.agg [.ptr (.lit (.string [101, 114, 114, 111, 114]))])
def laid_kenning_canon_codes {H : Type} : DataW H := .agg [.lit (.int .i64 9), .lit (.int .i64 10), .lit (.int .i64 10), .lit (.int .i64 3)]

/-- 'kenningtop.TopAgrees': WHATEVER THE INPUT: true; the input reads as it did. -/
def topAgreesSpec : ChangeSpec := { name := "topAgrees", fn := fun _ => fun
  | [d1, d2, d3] => { results := [.lit (.bool true)], args := [d1, d2, d3] }
  | _ => none }
def topAgreesRow : OpenClaim := { program := "ytmfhggnlainmiaagreatdoor", sum := "dba5b6dbe090b2744b1b9f0301cd18c43aa8b167effc966617fab38a2441a08c", func := "kenning/kenningtop.TopAgrees", spec := "topAgrees", inPlace := ["slices.overlaps[uint64]", "internal/reflectlite.ValueOf", "(internal/reflectlite.Value).Type", "(internal/reflectlite.Value).IsNil", "internal/reflectlite.TypeOf", "(internal/reflectlite.Value).Elem", "(internal/reflectlite.Value).Set", "slices.overlaps[kenning/api.Fragment]"], unfollowed := true, recurses := true, named := ["errors.errorType"], apart := false, laid := [("errors.errorType", laid_errors_errorType)] }
def TopAgreesSaid : Prop := topAgreesRow.holds Tryz.pinned (OpenSpec.ofChange topAgreesSpec)

/-- ITS FALSE NEIGHBOUR: 'it returns false'. Refute it at one input. -/
def topAgreesWrong : ChangeSpec := { name := "topAgrees", fn := fun _ => fun
  | [d1, d2, d3] => { results := [.lit (.bool false)], args := [d1, d2, d3] }
  | _ => none }
def TopAgreesWrongFalsely : Prop := topAgreesRow.holds Tryz.pinned (OpenSpec.ofChange topAgreesWrong)

/-- 'kenningtop.TopStreams': WHATEVER THE INPUT: true; the input reads as it did. -/
def topStreamsSpec : ChangeSpec := { name := "topStreams", fn := fun _ => fun
  | [d1, d2, d3] => { results := [.lit (.bool true)], args := [d1, d2, d3] }
  | _ => none }
def topStreamsRow : OpenClaim := { program := "ytmfhggnlainmiaagreatdoor", sum := "dba5b6dbe090b2744b1b9f0301cd18c43aa8b167effc966617fab38a2441a08c", func := "kenning/kenningtop.TopStreams", spec := "topStreams", inPlace := ["slices.overlaps[uint64]", "internal/reflectlite.ValueOf", "(internal/reflectlite.Value).Type", "(internal/reflectlite.Value).IsNil", "internal/reflectlite.TypeOf", "(internal/reflectlite.Value).Elem", "(internal/reflectlite.Value).Set", "slices.overlaps[kenning/api.Fragment]"], unfollowed := true, recurses := true, named := ["errors.errorType"], apart := false, laid := [("errors.errorType", laid_errors_errorType)] }
def TopStreamsSaid : Prop := topStreamsRow.holds Tryz.pinned (OpenSpec.ofChange topStreamsSpec)

/-- ITS FALSE NEIGHBOUR: 'it returns false'. Refute it at one input. -/
def topStreamsWrong : ChangeSpec := { name := "topStreams", fn := fun _ => fun
  | [d1, d2, d3] => { results := [.lit (.bool false)], args := [d1, d2, d3] }
  | _ => none }
def TopStreamsWrongFalsely : Prop := topStreamsRow.holds Tryz.pinned (OpenSpec.ofChange topStreamsWrong)

/-- 'kenninglaw21.FrameEncodes': WHATEVER THE INPUT: true; the input reads as it did. -/
def frameEncodesSpec : ChangeSpec := { name := "frameEncodes", fn := fun _ => fun
  | [d] => { results := [.lit (.bool true)], args := [d] }
  | _ => none }
def frameEncodesRow : OpenClaim := { program := "ytmfhggnlainmiaagreatdoor", sum := "dba5b6dbe090b2744b1b9f0301cd18c43aa8b167effc966617fab38a2441a08c", func := "kenning/kenninglaw21.FrameEncodes", spec := "frameEncodes", inPlace := ["internal/reflectlite.ValueOf", "(internal/reflectlite.Value).Type", "(internal/reflectlite.Value).IsNil", "internal/reflectlite.TypeOf", "(internal/reflectlite.Value).Elem", "(internal/reflectlite.Value).Set", "slices.overlaps[uint64]", "slices.overlaps[kenning/api.Fragment]"], unfollowed := true, recurses := true, named := ["errors.errorType"], apart := false, laid := [("errors.errorType", laid_errors_errorType)] }
def FrameEncodesSaid : Prop := frameEncodesRow.holds Tryz.pinned (OpenSpec.ofChange frameEncodesSpec)

/-- ITS FALSE NEIGHBOUR: 'it returns false'. Refute it at one input. -/
def frameEncodesWrong : ChangeSpec := { name := "frameEncodes", fn := fun _ => fun
  | [d] => { results := [.lit (.bool false)], args := [d] }
  | _ => none }
def FrameEncodesWrongFalsely : Prop := frameEncodesRow.holds Tryz.pinned (OpenSpec.ofChange frameEncodesWrong)

/-- 'kenninglaw19.WireSteps': WHATEVER THE INPUT: true; the input reads as it did. -/
def wireStepsSpec : ChangeSpec := { name := "wireSteps", fn := fun _ => fun
  | [d1, d2, d3] => { results := [.lit (.bool true)], args := [d1, d2, d3] }
  | _ => none }
def wireStepsRow : OpenClaim := { program := "ytmfhggnlainmiaagreatdoor", sum := "dba5b6dbe090b2744b1b9f0301cd18c43aa8b167effc966617fab38a2441a08c", func := "kenning/kenninglaw19.WireSteps", spec := "wireSteps", inPlace := ["internal/reflectlite.ValueOf", "(internal/reflectlite.Value).Type", "(internal/reflectlite.Value).IsNil", "internal/reflectlite.TypeOf", "(internal/reflectlite.Value).Elem", "(internal/reflectlite.Value).Set", "slices.overlaps[uint64]", "slices.overlaps[kenning/api.Fragment]"], unfollowed := true, recurses := true, named := ["errors.errorType"], apart := false, laid := [("errors.errorType", laid_errors_errorType)] }
def WireStepsSaid : Prop := wireStepsRow.holds Tryz.pinned (OpenSpec.ofChange wireStepsSpec)

/-- ITS FALSE NEIGHBOUR: 'it returns false'. Refute it at one input. -/
def wireStepsWrong : ChangeSpec := { name := "wireSteps", fn := fun _ => fun
  | [d1, d2, d3] => { results := [.lit (.bool false)], args := [d1, d2, d3] }
  | _ => none }
def WireStepsWrongFalsely : Prop := wireStepsRow.holds Tryz.pinned (OpenSpec.ofChange wireStepsWrong)

/-- 'kenninglaw24.StreamChunks': WHATEVER THE INPUT: true; the input reads as it did. -/
def streamChunksSpec : ChangeSpec := { name := "streamChunks", fn := fun _ => fun
  | [d1, d2, d3] => { results := [.lit (.bool true)], args := [d1, d2, d3] }
  | _ => none }
def streamChunksRow : OpenClaim := { program := "ytmfhggnlainmiaagreatdoor", sum := "dba5b6dbe090b2744b1b9f0301cd18c43aa8b167effc966617fab38a2441a08c", func := "kenning/kenninglaw24.StreamChunks", spec := "streamChunks", inPlace := ["internal/reflectlite.ValueOf", "(internal/reflectlite.Value).Type", "(internal/reflectlite.Value).IsNil", "internal/reflectlite.TypeOf", "(internal/reflectlite.Value).Elem", "(internal/reflectlite.Value).Set", "slices.overlaps[uint64]", "slices.overlaps[kenning/api.Fragment]"], unfollowed := true, recurses := true, named := ["errors.errorType"], apart := false, laid := [("errors.errorType", laid_errors_errorType)] }
def StreamChunksSaid : Prop := streamChunksRow.holds Tryz.pinned (OpenSpec.ofChange streamChunksSpec)

/-- ITS FALSE NEIGHBOUR: 'it returns false'. Refute it at one input. -/
def streamChunksWrong : ChangeSpec := { name := "streamChunks", fn := fun _ => fun
  | [d1, d2, d3] => { results := [.lit (.bool false)], args := [d1, d2, d3] }
  | _ => none }
def StreamChunksWrongFalsely : Prop := streamChunksRow.holds Tryz.pinned (OpenSpec.ofChange streamChunksWrong)

/-- 'kenninglaw24.StreamSteps': WHATEVER THE INPUT: true; the input reads as it did. -/
def streamStepsSpec : ChangeSpec := { name := "streamSteps", fn := fun _ => fun
  | [d1, d2, d3] => { results := [.lit (.bool true)], args := [d1, d2, d3] }
  | _ => none }
def streamStepsRow : OpenClaim := { program := "ytmfhggnlainmiaagreatdoor", sum := "dba5b6dbe090b2744b1b9f0301cd18c43aa8b167effc966617fab38a2441a08c", func := "kenning/kenninglaw24.StreamSteps", spec := "streamSteps", inPlace := ["internal/reflectlite.ValueOf", "(internal/reflectlite.Value).Type", "(internal/reflectlite.Value).IsNil", "internal/reflectlite.TypeOf", "(internal/reflectlite.Value).Elem", "(internal/reflectlite.Value).Set", "slices.overlaps[uint64]", "slices.overlaps[kenning/api.Fragment]"], unfollowed := true, recurses := true, named := ["errors.errorType"], apart := false, laid := [("errors.errorType", laid_errors_errorType)] }
def StreamStepsSaid : Prop := streamStepsRow.holds Tryz.pinned (OpenSpec.ofChange streamStepsSpec)

/-- ITS FALSE NEIGHBOUR: 'it returns false'. Refute it at one input. -/
def streamStepsWrong : ChangeSpec := { name := "streamSteps", fn := fun _ => fun
  | [d1, d2, d3] => { results := [.lit (.bool false)], args := [d1, d2, d3] }
  | _ => none }
def StreamStepsWrongFalsely : Prop := streamStepsRow.holds Tryz.pinned (OpenSpec.ofChange streamStepsWrong)

/-- 'kenninglaw24.StreamRests': WHATEVER THE INPUT: true; the input reads as it did. -/
def streamRestsSpec : ChangeSpec := { name := "streamRests", fn := fun _ => fun
  | [d1, d2, d3] => { results := [.lit (.bool true)], args := [d1, d2, d3] }
  | _ => none }
def streamRestsRow : OpenClaim := { program := "ytmfhggnlainmiaagreatdoor", sum := "dba5b6dbe090b2744b1b9f0301cd18c43aa8b167effc966617fab38a2441a08c", func := "kenning/kenninglaw24.StreamRests", spec := "streamRests", inPlace := ["internal/reflectlite.ValueOf", "(internal/reflectlite.Value).Type", "(internal/reflectlite.Value).IsNil", "internal/reflectlite.TypeOf", "(internal/reflectlite.Value).Elem", "(internal/reflectlite.Value).Set", "slices.overlaps[uint64]", "slices.overlaps[kenning/api.Fragment]"], unfollowed := true, recurses := true, named := ["errors.errorType"], apart := false, laid := [("errors.errorType", laid_errors_errorType)] }
def StreamRestsSaid : Prop := streamRestsRow.holds Tryz.pinned (OpenSpec.ofChange streamRestsSpec)

/-- ITS FALSE NEIGHBOUR: 'it returns false'. Refute it at one input. -/
def streamRestsWrong : ChangeSpec := { name := "streamRests", fn := fun _ => fun
  | [d1, d2, d3] => { results := [.lit (.bool false)], args := [d1, d2, d3] }
  | _ => none }
def StreamRestsWrongFalsely : Prop := streamRestsRow.holds Tryz.pinned (OpenSpec.ofChange streamRestsWrong)

/-- 'kenninglaw23.OneshotReads': WHATEVER THE INPUT: true; the input reads as it did. -/
def oneshotReadsSpec : ChangeSpec := { name := "oneshotReads", fn := fun _ => fun
  | [d1, d2] => { results := [.lit (.bool true)], args := [d1, d2] }
  | _ => none }
def oneshotReadsRow : OpenClaim := { program := "ytmfhggnlainmiaagreatdoor", sum := "dba5b6dbe090b2744b1b9f0301cd18c43aa8b167effc966617fab38a2441a08c", func := "kenning/kenninglaw23.OneshotReads", spec := "oneshotReads", inPlace := ["internal/reflectlite.ValueOf", "(internal/reflectlite.Value).Type", "(internal/reflectlite.Value).IsNil", "internal/reflectlite.TypeOf", "(internal/reflectlite.Value).Elem", "(internal/reflectlite.Value).Set", "slices.overlaps[uint64]", "slices.overlaps[kenning/api.Fragment]"], unfollowed := true, recurses := true, named := ["errors.errorType"], apart := false, laid := [("errors.errorType", laid_errors_errorType)] }
def OneshotReadsSaid : Prop := oneshotReadsRow.holds Tryz.pinned (OpenSpec.ofChange oneshotReadsSpec)

/-- ITS FALSE NEIGHBOUR: 'it returns false'. Refute it at one input. -/
def oneshotReadsWrong : ChangeSpec := { name := "oneshotReads", fn := fun _ => fun
  | [d1, d2] => { results := [.lit (.bool false)], args := [d1, d2] }
  | _ => none }
def OneshotReadsWrongFalsely : Prop := oneshotReadsRow.holds Tryz.pinned (OpenSpec.ofChange oneshotReadsWrong)

/-- 'kenninglaw23.OneshotStops': WHATEVER THE INPUT: true; the input reads as it did. -/
def oneshotStopsSpec : ChangeSpec := { name := "oneshotStops", fn := fun _ => fun
  | [d1, d2] => { results := [.lit (.bool true)], args := [d1, d2] }
  | _ => none }
def oneshotStopsRow : OpenClaim := { program := "ytmfhggnlainmiaagreatdoor", sum := "dba5b6dbe090b2744b1b9f0301cd18c43aa8b167effc966617fab38a2441a08c", func := "kenning/kenninglaw23.OneshotStops", spec := "oneshotStops", inPlace := ["internal/reflectlite.ValueOf", "(internal/reflectlite.Value).Type", "(internal/reflectlite.Value).IsNil", "internal/reflectlite.TypeOf", "(internal/reflectlite.Value).Elem", "(internal/reflectlite.Value).Set", "slices.overlaps[uint64]", "slices.overlaps[kenning/api.Fragment]"], unfollowed := true, recurses := true, named := ["errors.errorType"], apart := false, laid := [("errors.errorType", laid_errors_errorType)] }
def OneshotStopsSaid : Prop := oneshotStopsRow.holds Tryz.pinned (OpenSpec.ofChange oneshotStopsSpec)

/-- ITS FALSE NEIGHBOUR: 'it returns false'. Refute it at one input. -/
def oneshotStopsWrong : ChangeSpec := { name := "oneshotStops", fn := fun _ => fun
  | [d1, d2] => { results := [.lit (.bool false)], args := [d1, d2] }
  | _ => none }
def OneshotStopsWrongFalsely : Prop := oneshotStopsRow.holds Tryz.pinned (OpenSpec.ofChange oneshotStopsWrong)

/-- 'kenninglaw23.OneshotOnce': WHATEVER THE INPUT: true; the input reads as it did. -/
def oneshotOnceSpec : ChangeSpec := { name := "oneshotOnce", fn := fun _ => fun
  | [d1, d2] => { results := [.lit (.bool true)], args := [d1, d2] }
  | _ => none }
def oneshotOnceRow : OpenClaim := { program := "ytmfhggnlainmiaagreatdoor", sum := "dba5b6dbe090b2744b1b9f0301cd18c43aa8b167effc966617fab38a2441a08c", func := "kenning/kenninglaw23.OneshotOnce", spec := "oneshotOnce", inPlace := ["internal/reflectlite.ValueOf", "(internal/reflectlite.Value).Type", "(internal/reflectlite.Value).IsNil", "internal/reflectlite.TypeOf", "(internal/reflectlite.Value).Elem", "(internal/reflectlite.Value).Set", "slices.overlaps[uint64]", "slices.overlaps[kenning/api.Fragment]"], unfollowed := true, recurses := true, named := ["errors.errorType", "kenning/canon.codes"], apart := false, laid := [("errors.errorType", laid_errors_errorType), ("kenning/canon.codes", laid_kenning_canon_codes)] }
def OneshotOnceSaid : Prop := oneshotOnceRow.holds Tryz.pinned (OpenSpec.ofChange oneshotOnceSpec)

/-- ITS FALSE NEIGHBOUR: 'it returns false'. Refute it at one input. -/
def oneshotOnceWrong : ChangeSpec := { name := "oneshotOnce", fn := fun _ => fun
  | [d1, d2] => { results := [.lit (.bool false)], args := [d1, d2] }
  | _ => none }
def OneshotOnceWrongFalsely : Prop := oneshotOnceRow.holds Tryz.pinned (OpenSpec.ofChange oneshotOnceWrong)

/-- 'kenninglaw24.StreamPrefixes': WHATEVER THE INPUT: true; the input reads as it did. -/
def streamPrefixesSpec : ChangeSpec := { name := "streamPrefixes", fn := fun _ => fun
  | [d1, d2, d3] => { results := [.lit (.bool true)], args := [d1, d2, d3] }
  | _ => none }
def streamPrefixesRow : OpenClaim := { program := "ytmfhggnlainmiaagreatdoor", sum := "dba5b6dbe090b2744b1b9f0301cd18c43aa8b167effc966617fab38a2441a08c", func := "kenning/kenninglaw24.StreamPrefixes", spec := "streamPrefixes", inPlace := ["internal/reflectlite.ValueOf", "(internal/reflectlite.Value).Type", "(internal/reflectlite.Value).IsNil", "internal/reflectlite.TypeOf", "(internal/reflectlite.Value).Elem", "(internal/reflectlite.Value).Set", "slices.overlaps[uint64]", "slices.overlaps[kenning/api.Fragment]"], unfollowed := true, recurses := true, named := ["errors.errorType"], apart := false, laid := [("errors.errorType", laid_errors_errorType)] }
def StreamPrefixesSaid : Prop := streamPrefixesRow.holds Tryz.pinned (OpenSpec.ofChange streamPrefixesSpec)

/-- ITS FALSE NEIGHBOUR: 'it returns false'. Refute it at one input. -/
def streamPrefixesWrong : ChangeSpec := { name := "streamPrefixes", fn := fun _ => fun
  | [d1, d2, d3] => { results := [.lit (.bool false)], args := [d1, d2, d3] }
  | _ => none }
def StreamPrefixesWrongFalsely : Prop := streamPrefixesRow.holds Tryz.pinned (OpenSpec.ofChange streamPrefixesWrong)

/- THE SECOND FORM. 'bulk': how many values and letters a reading holds, each counted each time it is reached (what is shared counts as often as it is met; a slice's spare places count too). A statement '..UptoSaid' is the law's where the arguments, and the package variables that the reading takes, are together of bulk at most 1048576: NARROWER than '..Said'. Prove '..Said' where nothing that the law and all that it calls make is longer than what came in: it says more and counts as full. Else prove '..UptoSaid'. A law counts once. -/
mutual
def uptoBulk {H : Type} : DataW H → Nat
  | .lit (.string bytes) => bytes.length + 1
  | .lit _ => 1
  | .nil => 1
  | .ptr d => uptoBulk d + 1
  | .slice elems spare => uptoBulkAll elems + uptoBulkAll spare + 1
  | .agg parts => uptoBulkAll parts + 1
  | .iface _ d => uptoBulk d + 1
  | .map entries => uptoBulkEntries entries + 1
  | .held _ => 1
def uptoBulkAll {H : Type} : List (DataW H) → Nat
  | [] => 0
  | d :: r => uptoBulk d + uptoBulkAll r
def uptoBulkEntries {H : Type} : List (Lit × DataW H) → Nat
  | [] => 0
  | x :: r => uptoBulkEntry x + uptoBulkEntries r
def uptoBulkEntry {H : Type} : Lit × DataW H → Nat
  | (.string bytes, d) => bytes.length + uptoBulk d + 1
  | (_, d) => uptoBulk d + 1
 end
def uptoSmall : (H : Type) → List (DataW H) → Bool := fun _ ds => decide (uptoBulkAll ds ≤ 1048576)
def OpenSpec.upto (s : _root_.Go.ChangeSpec) : _root_.Go.OpenSpec := { _root_.Go.OpenSpec.ofChange s with cond := some uptoSmall }

/-- 'kenningtop.TopAgrees', WHERE WHAT IT READS IS OF BULK AT MOST 1048576: true; the input reads as it did. -/
def topAgreesUptoRow : OpenClaim := { program := "ytmfhggnlainmiaagreatdoor", sum := "dba5b6dbe090b2744b1b9f0301cd18c43aa8b167effc966617fab38a2441a08c", func := "kenning/kenningtop.TopAgrees", spec := "topAgrees", inPlace := ["slices.overlaps[uint64]", "internal/reflectlite.ValueOf", "(internal/reflectlite.Value).Type", "(internal/reflectlite.Value).IsNil", "internal/reflectlite.TypeOf", "(internal/reflectlite.Value).Elem", "(internal/reflectlite.Value).Set", "slices.overlaps[kenning/api.Fragment]"], unfollowed := true, recurses := true, named := ["errors.errorType"], apart := false, laid := [("errors.errorType", laid_errors_errorType)], narrowed := true }
def TopAgreesUptoSaid : Prop := topAgreesUptoRow.holds Tryz.pinned (OpenSpec.upto topAgreesSpec)

/-- 'kenningtop.TopStreams', WHERE WHAT IT READS IS OF BULK AT MOST 1048576: true; the input reads as it did. -/
def topStreamsUptoRow : OpenClaim := { program := "ytmfhggnlainmiaagreatdoor", sum := "dba5b6dbe090b2744b1b9f0301cd18c43aa8b167effc966617fab38a2441a08c", func := "kenning/kenningtop.TopStreams", spec := "topStreams", inPlace := ["slices.overlaps[uint64]", "internal/reflectlite.ValueOf", "(internal/reflectlite.Value).Type", "(internal/reflectlite.Value).IsNil", "internal/reflectlite.TypeOf", "(internal/reflectlite.Value).Elem", "(internal/reflectlite.Value).Set", "slices.overlaps[kenning/api.Fragment]"], unfollowed := true, recurses := true, named := ["errors.errorType"], apart := false, laid := [("errors.errorType", laid_errors_errorType)], narrowed := true }
def TopStreamsUptoSaid : Prop := topStreamsUptoRow.holds Tryz.pinned (OpenSpec.upto topStreamsSpec)

/-- 'kenninglaw21.FrameEncodes', WHERE WHAT IT READS IS OF BULK AT MOST 1048576: true; the input reads as it did. -/
def frameEncodesUptoRow : OpenClaim := { program := "ytmfhggnlainmiaagreatdoor", sum := "dba5b6dbe090b2744b1b9f0301cd18c43aa8b167effc966617fab38a2441a08c", func := "kenning/kenninglaw21.FrameEncodes", spec := "frameEncodes", inPlace := ["internal/reflectlite.ValueOf", "(internal/reflectlite.Value).Type", "(internal/reflectlite.Value).IsNil", "internal/reflectlite.TypeOf", "(internal/reflectlite.Value).Elem", "(internal/reflectlite.Value).Set", "slices.overlaps[uint64]", "slices.overlaps[kenning/api.Fragment]"], unfollowed := true, recurses := true, named := ["errors.errorType"], apart := false, laid := [("errors.errorType", laid_errors_errorType)], narrowed := true }
def FrameEncodesUptoSaid : Prop := frameEncodesUptoRow.holds Tryz.pinned (OpenSpec.upto frameEncodesSpec)

/-- 'kenninglaw19.WireSteps', WHERE WHAT IT READS IS OF BULK AT MOST 1048576: true; the input reads as it did. -/
def wireStepsUptoRow : OpenClaim := { program := "ytmfhggnlainmiaagreatdoor", sum := "dba5b6dbe090b2744b1b9f0301cd18c43aa8b167effc966617fab38a2441a08c", func := "kenning/kenninglaw19.WireSteps", spec := "wireSteps", inPlace := ["internal/reflectlite.ValueOf", "(internal/reflectlite.Value).Type", "(internal/reflectlite.Value).IsNil", "internal/reflectlite.TypeOf", "(internal/reflectlite.Value).Elem", "(internal/reflectlite.Value).Set", "slices.overlaps[uint64]", "slices.overlaps[kenning/api.Fragment]"], unfollowed := true, recurses := true, named := ["errors.errorType"], apart := false, laid := [("errors.errorType", laid_errors_errorType)], narrowed := true }
def WireStepsUptoSaid : Prop := wireStepsUptoRow.holds Tryz.pinned (OpenSpec.upto wireStepsSpec)

/-- 'kenninglaw24.StreamChunks', WHERE WHAT IT READS IS OF BULK AT MOST 1048576: true; the input reads as it did. -/
def streamChunksUptoRow : OpenClaim := { program := "ytmfhggnlainmiaagreatdoor", sum := "dba5b6dbe090b2744b1b9f0301cd18c43aa8b167effc966617fab38a2441a08c", func := "kenning/kenninglaw24.StreamChunks", spec := "streamChunks", inPlace := ["internal/reflectlite.ValueOf", "(internal/reflectlite.Value).Type", "(internal/reflectlite.Value).IsNil", "internal/reflectlite.TypeOf", "(internal/reflectlite.Value).Elem", "(internal/reflectlite.Value).Set", "slices.overlaps[uint64]", "slices.overlaps[kenning/api.Fragment]"], unfollowed := true, recurses := true, named := ["errors.errorType"], apart := false, laid := [("errors.errorType", laid_errors_errorType)], narrowed := true }
def StreamChunksUptoSaid : Prop := streamChunksUptoRow.holds Tryz.pinned (OpenSpec.upto streamChunksSpec)

/-- 'kenninglaw24.StreamSteps', WHERE WHAT IT READS IS OF BULK AT MOST 1048576: true; the input reads as it did. -/
def streamStepsUptoRow : OpenClaim := { program := "ytmfhggnlainmiaagreatdoor", sum := "dba5b6dbe090b2744b1b9f0301cd18c43aa8b167effc966617fab38a2441a08c", func := "kenning/kenninglaw24.StreamSteps", spec := "streamSteps", inPlace := ["internal/reflectlite.ValueOf", "(internal/reflectlite.Value).Type", "(internal/reflectlite.Value).IsNil", "internal/reflectlite.TypeOf", "(internal/reflectlite.Value).Elem", "(internal/reflectlite.Value).Set", "slices.overlaps[uint64]", "slices.overlaps[kenning/api.Fragment]"], unfollowed := true, recurses := true, named := ["errors.errorType"], apart := false, laid := [("errors.errorType", laid_errors_errorType)], narrowed := true }
def StreamStepsUptoSaid : Prop := streamStepsUptoRow.holds Tryz.pinned (OpenSpec.upto streamStepsSpec)

/-- 'kenninglaw24.StreamRests', WHERE WHAT IT READS IS OF BULK AT MOST 1048576: true; the input reads as it did. -/
def streamRestsUptoRow : OpenClaim := { program := "ytmfhggnlainmiaagreatdoor", sum := "dba5b6dbe090b2744b1b9f0301cd18c43aa8b167effc966617fab38a2441a08c", func := "kenning/kenninglaw24.StreamRests", spec := "streamRests", inPlace := ["internal/reflectlite.ValueOf", "(internal/reflectlite.Value).Type", "(internal/reflectlite.Value).IsNil", "internal/reflectlite.TypeOf", "(internal/reflectlite.Value).Elem", "(internal/reflectlite.Value).Set", "slices.overlaps[uint64]", "slices.overlaps[kenning/api.Fragment]"], unfollowed := true, recurses := true, named := ["errors.errorType"], apart := false, laid := [("errors.errorType", laid_errors_errorType)], narrowed := true }
def StreamRestsUptoSaid : Prop := streamRestsUptoRow.holds Tryz.pinned (OpenSpec.upto streamRestsSpec)

/-- 'kenninglaw23.OneshotReads', WHERE WHAT IT READS IS OF BULK AT MOST 1048576: true; the input reads as it did. -/
def oneshotReadsUptoRow : OpenClaim := { program := "ytmfhggnlainmiaagreatdoor", sum := "dba5b6dbe090b2744b1b9f0301cd18c43aa8b167effc966617fab38a2441a08c", func := "kenning/kenninglaw23.OneshotReads", spec := "oneshotReads", inPlace := ["internal/reflectlite.ValueOf", "(internal/reflectlite.Value).Type", "(internal/reflectlite.Value).IsNil", "internal/reflectlite.TypeOf", "(internal/reflectlite.Value).Elem", "(internal/reflectlite.Value).Set", "slices.overlaps[uint64]", "slices.overlaps[kenning/api.Fragment]"], unfollowed := true, recurses := true, named := ["errors.errorType"], apart := false, laid := [("errors.errorType", laid_errors_errorType)], narrowed := true }
def OneshotReadsUptoSaid : Prop := oneshotReadsUptoRow.holds Tryz.pinned (OpenSpec.upto oneshotReadsSpec)

/-- 'kenninglaw23.OneshotStops', WHERE WHAT IT READS IS OF BULK AT MOST 1048576: true; the input reads as it did. -/
def oneshotStopsUptoRow : OpenClaim := { program := "ytmfhggnlainmiaagreatdoor", sum := "dba5b6dbe090b2744b1b9f0301cd18c43aa8b167effc966617fab38a2441a08c", func := "kenning/kenninglaw23.OneshotStops", spec := "oneshotStops", inPlace := ["internal/reflectlite.ValueOf", "(internal/reflectlite.Value).Type", "(internal/reflectlite.Value).IsNil", "internal/reflectlite.TypeOf", "(internal/reflectlite.Value).Elem", "(internal/reflectlite.Value).Set", "slices.overlaps[uint64]", "slices.overlaps[kenning/api.Fragment]"], unfollowed := true, recurses := true, named := ["errors.errorType"], apart := false, laid := [("errors.errorType", laid_errors_errorType)], narrowed := true }
def OneshotStopsUptoSaid : Prop := oneshotStopsUptoRow.holds Tryz.pinned (OpenSpec.upto oneshotStopsSpec)

/-- 'kenninglaw23.OneshotOnce', WHERE WHAT IT READS IS OF BULK AT MOST 1048576: true; the input reads as it did. -/
def oneshotOnceUptoRow : OpenClaim := { program := "ytmfhggnlainmiaagreatdoor", sum := "dba5b6dbe090b2744b1b9f0301cd18c43aa8b167effc966617fab38a2441a08c", func := "kenning/kenninglaw23.OneshotOnce", spec := "oneshotOnce", inPlace := ["internal/reflectlite.ValueOf", "(internal/reflectlite.Value).Type", "(internal/reflectlite.Value).IsNil", "internal/reflectlite.TypeOf", "(internal/reflectlite.Value).Elem", "(internal/reflectlite.Value).Set", "slices.overlaps[uint64]", "slices.overlaps[kenning/api.Fragment]"], unfollowed := true, recurses := true, named := ["errors.errorType", "kenning/canon.codes"], apart := false, laid := [("errors.errorType", laid_errors_errorType), ("kenning/canon.codes", laid_kenning_canon_codes)], narrowed := true }
def OneshotOnceUptoSaid : Prop := oneshotOnceUptoRow.holds Tryz.pinned (OpenSpec.upto oneshotOnceSpec)

/-- 'kenninglaw24.StreamPrefixes', WHERE WHAT IT READS IS OF BULK AT MOST 1048576: true; the input reads as it did. -/
def streamPrefixesUptoRow : OpenClaim := { program := "ytmfhggnlainmiaagreatdoor", sum := "dba5b6dbe090b2744b1b9f0301cd18c43aa8b167effc966617fab38a2441a08c", func := "kenning/kenninglaw24.StreamPrefixes", spec := "streamPrefixes", inPlace := ["internal/reflectlite.ValueOf", "(internal/reflectlite.Value).Type", "(internal/reflectlite.Value).IsNil", "internal/reflectlite.TypeOf", "(internal/reflectlite.Value).Elem", "(internal/reflectlite.Value).Set", "slices.overlaps[uint64]", "slices.overlaps[kenning/api.Fragment]"], unfollowed := true, recurses := true, named := ["errors.errorType"], apart := false, laid := [("errors.errorType", laid_errors_errorType)], narrowed := true }
def StreamPrefixesUptoSaid : Prop := streamPrefixesUptoRow.holds Tryz.pinned (OpenSpec.upto streamPrefixesSpec)

end Rows
end Go.Proofs.YtmfhggnlainmiaaGreatDoor
