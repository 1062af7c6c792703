/-
  NARROWER THAN 'FOR EVERY INPUT', by the rows' own cells (each row's printed sentence says how): FrameWrites: laid · FrameHeaders: laid · FrameSplits: laid · FrameDetects: laid.
  DERIVED. THE GIVEN ROWS OF THIS SEAT. 4 by the template 'for every input the law returns true; each argument reads behind the call as it read before'; 0 by the template 'total and deterministic' (their statements: YtejcakbkldecmaaDoorTotals.lean).
  GIVEN WITH THE SEED: the statements are not yours to turn. If you find one false, say at which input.
  Laid BY PROGRAM, IN A SANDBOX (cutbox-rows.mjs): the forced cells as the released guide's own fill.sh prints them over the translation e93c41ec87003bbc… (all of the seat's roots in one cut). By AI agents, Wed Nov 11 2026. No macro, syntax, notation, axiom, sorry.
-/
import Derived.Test.YtejcakbkldecmaaDoorChecked
import GoSem.Claim
import GoSem.ClaimJoined
import GoSem.ClaimMapViews
import Derived.JoinedTies
import Derived.KernelRfl
namespace Go.Proofs.YtejcakbkldecmaaDoor
/- THE CELL 'sum', in the pinned program and in every row, IS THE sha256 OF THE DUMP (.gsa) THAT YtejcakbkldecmaaDoorProg.lean LOADS. Nothing in Lean hashes anything: it is a label: what it is worth is what the hold of that sum in a sandbox is worth. -/
noncomputable def Tryd.pinned : Pinned := { name := "ytejcakbkldecmaadoor", sum := "e93c41ec87003bbc5ec00a1e422a1868663651b0c55c696868027f098f1b3b06", checked := Tryd.checked }
namespace Rows
def none {H : Type} : Left H := { results := [], args := [] }

/- WHAT THE LISTED PACKAGE-LEVEL VARIABLES READ AS WHEN THE CALL BEGINS. Each datum BY PROGRAM (the guide's laid-datum.mjs) off the statement by which the dump's own 'gosem.cut.vars' lays the variable. In a bare row this is a premise. The card (YtejcakbkldecmaaDoorCards.lean) ties it to the program's text. -/
def laid_errors_errorType {H : Type} : DataW H := .iface "internal/reflectlite.rtype" (.agg [.ptr (.lit (.string [101, 114, 114, 111, 114]))])

/-- 'kenninglaw21.FrameWrites': WHATEVER THE INPUT: true; the input reads as it did. -/
def frameWritesSpec : ChangeSpec := { name := "frameWrites", fn := fun _ => fun
  | [d1, d2] => { results := [.lit (.bool true)], args := [d1, d2] }
  | _ => none }
def frameWritesRow : OpenClaim := { program := "ytejcakbkldecmaadoor", sum := "e93c41ec87003bbc5ec00a1e422a1868663651b0c55c696868027f098f1b3b06", func := "kenning/kenninglaw21.FrameWrites", spec := "frameWrites", inPlace := ["internal/reflectlite.ValueOf", "(internal/reflectlite.Value).Type", "(internal/reflectlite.Value).IsNil", "internal/reflectlite.TypeOf", "(internal/reflectlite.Value).Elem", "(internal/reflectlite.Value).Set"], unfollowed := true, recurses := true, named := ["errors.errorType"], apart := false, laid := [("errors.errorType", laid_errors_errorType)] }
def FrameWritesSaid : Prop := frameWritesRow.holds Tryd.pinned (OpenSpec.ofChange frameWritesSpec)

/-- ITS FALSE NEIGHBOUR: 'it returns false'. Refute it at one input. -/
def frameWritesWrong : ChangeSpec := { name := "frameWrites", fn := fun _ => fun
  | [d1, d2] => { results := [.lit (.bool false)], args := [d1, d2] }
  | _ => none }
def FrameWritesWrongFalsely : Prop := frameWritesRow.holds Tryd.pinned (OpenSpec.ofChange frameWritesWrong)

/-- 'kenninglaw21.FrameHeaders': WHATEVER THE INPUT: true; the input reads as it did. -/
def frameHeadersSpec : ChangeSpec := { name := "frameHeaders", fn := fun _ => fun
  | [d1, d2, d3] => { results := [.lit (.bool true)], args := [d1, d2, d3] }
  | _ => none }
def frameHeadersRow : OpenClaim := { program := "ytejcakbkldecmaadoor", sum := "e93c41ec87003bbc5ec00a1e422a1868663651b0c55c696868027f098f1b3b06", func := "kenning/kenninglaw21.FrameHeaders", spec := "frameHeaders", inPlace := ["internal/reflectlite.ValueOf", "(internal/reflectlite.Value).Type", "(internal/reflectlite.Value).IsNil", "internal/reflectlite.TypeOf", "(internal/reflectlite.Value).Elem", "(internal/reflectlite.Value).Set"], unfollowed := true, recurses := true, named := ["errors.errorType"], apart := false, laid := [("errors.errorType", laid_errors_errorType)] }
def FrameHeadersSaid : Prop := frameHeadersRow.holds Tryd.pinned (OpenSpec.ofChange frameHeadersSpec)

/-- ITS FALSE NEIGHBOUR: 'it returns false'. Refute it at one input. -/
def frameHeadersWrong : ChangeSpec := { name := "frameHeaders", fn := fun _ => fun
  | [d1, d2, d3] => { results := [.lit (.bool false)], args := [d1, d2, d3] }
  | _ => none }
def FrameHeadersWrongFalsely : Prop := frameHeadersRow.holds Tryd.pinned (OpenSpec.ofChange frameHeadersWrong)

/-- 'kenninglaw21.FrameSplits': WHATEVER THE INPUT: true; the input reads as it did. -/
def frameSplitsSpec : ChangeSpec := { name := "frameSplits", fn := fun _ => fun
  | [d1, d2, d3] => { results := [.lit (.bool true)], args := [d1, d2, d3] }
  | _ => none }
def frameSplitsRow : OpenClaim := { program := "ytejcakbkldecmaadoor", sum := "e93c41ec87003bbc5ec00a1e422a1868663651b0c55c696868027f098f1b3b06", func := "kenning/kenninglaw21.FrameSplits", spec := "frameSplits", inPlace := ["internal/reflectlite.ValueOf", "(internal/reflectlite.Value).Type", "(internal/reflectlite.Value).IsNil", "internal/reflectlite.TypeOf", "(internal/reflectlite.Value).Elem", "(internal/reflectlite.Value).Set"], unfollowed := true, recurses := true, named := ["errors.errorType"], apart := false, laid := [("errors.errorType", laid_errors_errorType)] }
def FrameSplitsSaid : Prop := frameSplitsRow.holds Tryd.pinned (OpenSpec.ofChange frameSplitsSpec)

/-- ITS FALSE NEIGHBOUR: 'it returns false'. Refute it at one input. -/
def frameSplitsWrong : ChangeSpec := { name := "frameSplits", fn := fun _ => fun
  | [d1, d2, d3] => { results := [.lit (.bool false)], args := [d1, d2, d3] }
  | _ => none }
def FrameSplitsWrongFalsely : Prop := frameSplitsRow.holds Tryd.pinned (OpenSpec.ofChange frameSplitsWrong)

/-- 'kenninglaw21.FrameDetects': WHATEVER THE INPUT: true; the input reads as it did. -/
def frameDetectsSpec : ChangeSpec := { name := "frameDetects", fn := fun _ => fun
  | [d1, d2, d3] => { results := [.lit (.bool true)], args := [d1, d2, d3] }
  | _ => none }
def frameDetectsRow : OpenClaim := { program := "ytejcakbkldecmaadoor", sum := "e93c41ec87003bbc5ec00a1e422a1868663651b0c55c696868027f098f1b3b06", func := "kenning/kenninglaw21.FrameDetects", spec := "frameDetects", inPlace := ["internal/reflectlite.ValueOf", "(internal/reflectlite.Value).Type", "(internal/reflectlite.Value).IsNil", "internal/reflectlite.TypeOf", "(internal/reflectlite.Value).Elem", "(internal/reflectlite.Value).Set"], unfollowed := true, recurses := true, named := ["errors.errorType"], apart := false, laid := [("errors.errorType", laid_errors_errorType)] }
def FrameDetectsSaid : Prop := frameDetectsRow.holds Tryd.pinned (OpenSpec.ofChange frameDetectsSpec)

/-- ITS FALSE NEIGHBOUR: 'it returns false'. Refute it at one input. -/
def frameDetectsWrong : ChangeSpec := { name := "frameDetects", fn := fun _ => fun
  | [d1, d2, d3] => { results := [.lit (.bool false)], args := [d1, d2, d3] }
  | _ => none }
def FrameDetectsWrongFalsely : Prop := frameDetectsRow.holds Tryd.pinned (OpenSpec.ofChange frameDetectsWrong)

/- THE SECOND FORM. 'bulk': how many values and letters a reading holds, each counted each time it is reached (what is shared counts as often as it is met; a slice's spare places count too). A statement '..UptoSaid' is the law's where the arguments, and the package variables that the reading takes, are together of bulk at most 1048576: NARROWER than '..Said'. Prove '..Said' where nothing that the law and all that it calls make is longer than what came in: it says more and counts as full. Else prove '..UptoSaid'. A law counts once. -/
mutual
def uptoBulk {H : Type} : DataW H → Nat
  | .lit (.string bytes) => bytes.length + 1
  | .lit _ => 1
  | .nil => 1
  | .ptr d => uptoBulk d + 1
  | .slice elems spare => uptoBulkAll elems + uptoBulkAll spare + 1
  | .agg parts => uptoBulkAll parts + 1
  | .iface _ d => uptoBulk d + 1
  | .map entries => uptoBulkEntries entries + 1
  | .held _ => 1
def uptoBulkAll {H : Type} : List (DataW H) → Nat
  | [] => 0
  | d :: r => uptoBulk d + uptoBulkAll r
def uptoBulkEntries {H : Type} : List (Lit × DataW H) → Nat
  | [] => 0
  | x :: r => uptoBulkEntry x + uptoBulkEntries r
def uptoBulkEntry {H : Type} : Lit × DataW H → Nat
  | (.string bytes, d) => bytes.length + uptoBulk d + 1
  | (_, d) => uptoBulk d + 1
 end
def uptoSmall : (H : Type) → List (DataW H) → Bool := fun _ ds => decide (uptoBulkAll ds ≤ 1048576)
def OpenSpec.upto (s : _root_.Go.ChangeSpec) : _root_.Go.OpenSpec := { _root_.Go.OpenSpec.ofChange s with cond := some uptoSmall }

/-- 'kenninglaw21.FrameWrites', WHERE WHAT IT READS IS OF BULK AT MOST 1048576: true; the input reads as it did. -/
def frameWritesUptoRow : OpenClaim := { program := "ytejcakbkldecmaadoor", sum := "e93c41ec87003bbc5ec00a1e422a1868663651b0c55c696868027f098f1b3b06", func := "kenning/kenninglaw21.FrameWrites", spec := "frameWrites", inPlace := ["internal/reflectlite.ValueOf", "(internal/reflectlite.Value).Type", "(internal/reflectlite.Value).IsNil", "internal/reflectlite.TypeOf", "(internal/reflectlite.Value).Elem", "(internal/reflectlite.Value).Set"], unfollowed := true, recurses := true, named := ["errors.errorType"], apart := false, laid := [("errors.errorType", laid_errors_errorType)], narrowed := true }
def FrameWritesUptoSaid : Prop := frameWritesUptoRow.holds Tryd.pinned (OpenSpec.upto frameWritesSpec)

/-- 'kenninglaw21.FrameHeaders', WHERE WHAT IT READS IS OF BULK AT MOST 1048576: true; the input reads as it did. -/
def frameHeadersUptoRow : OpenClaim := { program := "ytejcakbkldecmaadoor", sum := "e93c41ec87003bbc5ec00a1e422a1868663651b0c55c696868027f098f1b3b06", func := "kenning/kenninglaw21.FrameHeaders", spec := "frameHeaders", inPlace := ["internal/reflectlite.ValueOf", "(internal/reflectlite.Value).Type", "(internal/reflectlite.Value).IsNil", "internal/reflectlite.TypeOf", "(internal/reflectlite.Value).Elem", "(internal/reflectlite.Value).Set"], unfollowed := true, recurses := true, named := ["errors.errorType"], apart := false, laid := [("errors.errorType", laid_errors_errorType)], narrowed := true }
def FrameHeadersUptoSaid : Prop := frameHeadersUptoRow.holds Tryd.pinned (OpenSpec.upto frameHeadersSpec)

/-- 'kenninglaw21.FrameSplits', WHERE WHAT IT READS IS OF BULK AT MOST 1048576: true; the input reads as it did. -/
def frameSplitsUptoRow : OpenClaim := { program := "ytejcakbkldecmaadoor", sum := "e93c41ec87003bbc5ec00a1e422a1868663651b0c55c696868027f098f1b3b06", func := "kenning/kenninglaw21.FrameSplits", spec := "frameSplits", inPlace := ["internal/reflectlite.ValueOf", "(internal/reflectlite.Value).Type", "(internal/reflectlite.Value).IsNil", "internal/reflectlite.TypeOf", "(internal/reflectlite.Value).Elem", "(internal/reflectlite.Value).Set"], unfollowed := true, recurses := true, named := ["errors.errorType"], apart := false, laid := [("errors.errorType", laid_errors_errorType)], narrowed := true }
def FrameSplitsUptoSaid : Prop := frameSplitsUptoRow.holds Tryd.pinned (OpenSpec.upto frameSplitsSpec)

/-- 'kenninglaw21.FrameDetects', WHERE WHAT IT READS IS OF BULK AT MOST 1048576: true; the input reads as it did. -/
def frameDetectsUptoRow : OpenClaim := { program := "ytejcakbkldecmaadoor", sum := "e93c41ec87003bbc5ec00a1e422a1868663651b0c55c696868027f098f1b3b06", func := "kenning/kenninglaw21.FrameDetects", spec := "frameDetects", inPlace := ["internal/reflectlite.ValueOf", "(internal/reflectlite.Value).Type", "(internal/reflectlite.Value).IsNil", "internal/reflectlite.TypeOf", "(internal/reflectlite.Value).Elem", "(internal/reflectlite.Value).Set"], unfollowed := true, recurses := true, named := ["errors.errorType"], apart := false, laid := [("errors.errorType", laid_errors_errorType)], narrowed := true }
def FrameDetectsUptoSaid : Prop := frameDetectsUptoRow.holds Tryd.pinned (OpenSpec.upto frameDetectsSpec)

end Rows
end Go.Proofs.YtejcakbkldecmaaDoor
