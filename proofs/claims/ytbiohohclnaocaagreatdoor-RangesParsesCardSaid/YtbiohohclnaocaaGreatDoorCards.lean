/-
  DERIVED. GIVEN WITH THE SEED: THE CARDS: each row of YtbiohohclnaocaaGreatDoorRows.lean that lists a variable, with what it lists TIED to the program's text (the seventh form; the later family's looks); each row that meets fmt, with fmt's text TOLD by the authors' own Lean function (tested against real Go, not proved from fmt's source: count such statements apart). THE CARD IS WHAT COUNTS. Prove the row's statement (the work); the ties are given (YtbiohohclnaocaaGreatDoorTie.lean); close each card by the builder's one call (the guide's Derived/Test/ToyasCard.lean, 'card_holds'). Laid BY PROGRAM, IN A SANDBOX (cutbox-door.mjs). By AI agents, Wed Nov 11 2026. No macro, syntax, notation, axiom, sorry.
-/
import Derived.Test.YtbiohohclnaocaaGreatDoorRows
import GoSem.ClaimSeven
namespace Go.Proofs.YtbiohohclnaocaaGreatDoor
namespace Rows

/-- THE TIED CARD OF 'kenninglaw04.RangesFinds'. -/
def rangesFindsCard : Claim7 := { stood := { row := rangesFindsRow, standIns := [], harness := (true, "f34ca13d863e80a6a1fdbc79a5fd90141db17ba05b21e4aecaa0fa46235915d3"), looks := true }, kinds := [], alts := [], laidByText := true, laidKinds := [.data, .data, .data, .data, .handle, .sentinel, .sentinel, .pinned], laidTests := true, laidLooks := .later }
def RangesFindsCardSaid : Prop := Claim7.holds Tryz.pinned (.plain (OpenSpec.ofChange rangesFindsSpec)) rangesFindsCard

/-- THE TIED CARD OF 'kenninglaw04.RangesDenotes'. -/
def rangesDenotesCard : Claim7 := { stood := { row := rangesDenotesRow, standIns := [], harness := (true, "f34ca13d863e80a6a1fdbc79a5fd90141db17ba05b21e4aecaa0fa46235915d3"), looks := true }, kinds := [], alts := [], laidByText := true, laidKinds := [.data, .data, .data, .data, .handle, .sentinel, .sentinel, .pinned], laidTests := true, laidLooks := .later }
def RangesDenotesCardSaid : Prop := Claim7.holds Tryz.pinned (.plain (OpenSpec.ofChange rangesDenotesSpec)) rangesDenotesCard

/-- THE TIED CARD OF 'kenninglaw04.RangesTexts'. -/
def rangesTextsCard : Claim7 := { stood := { row := rangesTextsRow, standIns := [], harness := (true, "f34ca13d863e80a6a1fdbc79a5fd90141db17ba05b21e4aecaa0fa46235915d3"), looks := true }, kinds := [], alts := [], laidByText := true, laidKinds := [.data, .data, .data, .data, .handle, .sentinel, .sentinel, .pinned], laidTests := true, laidLooks := .later }
def RangesTextsCardSaid : Prop := Claim7.holds Tryz.pinned (.plain (OpenSpec.ofChange rangesTextsSpec)) rangesTextsCard

/-- THE TIED CARD OF 'kenninglaw04.RangesCheck'. -/
def rangesCheckCard : Claim7 := { stood := { row := rangesCheckRow, standIns := [], harness := (true, "f34ca13d863e80a6a1fdbc79a5fd90141db17ba05b21e4aecaa0fa46235915d3"), looks := true }, kinds := [], alts := [], laidByText := true, laidKinds := [.data, .data, .data, .data, .handle, .sentinel, .sentinel, .pinned], laidTests := true, laidLooks := .later }
def RangesCheckCardSaid : Prop := Claim7.holds Tryz.pinned (.plain (OpenSpec.ofChange rangesCheckSpec)) rangesCheckCard

/-- THE TIED CARD OF 'kenninglaw04.RangesNormal'. -/
def rangesNormalCard : Claim7 := { stood := { row := rangesNormalRow, standIns := [], harness := (true, "f34ca13d863e80a6a1fdbc79a5fd90141db17ba05b21e4aecaa0fa46235915d3"), looks := true }, kinds := [], alts := [], laidByText := true, laidKinds := [.data, .data, .data, .data, .handle, .sentinel, .sentinel, .pinned], laidTests := true, laidLooks := .later }
def RangesNormalCardSaid : Prop := Claim7.holds Tryz.pinned (.plain (OpenSpec.ofChange rangesNormalSpec)) rangesNormalCard

/-- THE TIED CARD OF 'kenninglaw04.RangesParses'. -/
def rangesParsesCard : Claim7 := { stood := { row := rangesParsesRow, standIns := [], harness := (true, "f34ca13d863e80a6a1fdbc79a5fd90141db17ba05b21e4aecaa0fa46235915d3"), looks := true }, kinds := [], alts := [], laidByText := true, laidKinds := [.data, .data, .data, .data, .handle, .sentinel, .sentinel, .pinned], laidTests := true, laidLooks := .later }
def RangesParsesCardSaid : Prop := Claim7.holds Tryz.pinned (.plain (OpenSpec.ofChange rangesParsesSpec)) rangesParsesCard

/-- THE SECOND FORM's CARD OF 'kenninglaw04.RangesFinds'. -/
def rangesFindsUptoCard : Claim7 := { stood := { row := rangesFindsUptoRow, standIns := [], harness := (true, "f34ca13d863e80a6a1fdbc79a5fd90141db17ba05b21e4aecaa0fa46235915d3"), looks := true }, kinds := [], alts := [], laidByText := true, laidKinds := [.data, .data, .data, .data, .handle, .sentinel, .sentinel, .pinned], laidTests := true, laidLooks := .later }
def RangesFindsUptoCardSaid : Prop := Claim7.holds Tryz.pinned (.plain (OpenSpec.upto rangesFindsSpec)) rangesFindsUptoCard

/-- THE SECOND FORM's CARD OF 'kenninglaw04.RangesDenotes'. -/
def rangesDenotesUptoCard : Claim7 := { stood := { row := rangesDenotesUptoRow, standIns := [], harness := (true, "f34ca13d863e80a6a1fdbc79a5fd90141db17ba05b21e4aecaa0fa46235915d3"), looks := true }, kinds := [], alts := [], laidByText := true, laidKinds := [.data, .data, .data, .data, .handle, .sentinel, .sentinel, .pinned], laidTests := true, laidLooks := .later }
def RangesDenotesUptoCardSaid : Prop := Claim7.holds Tryz.pinned (.plain (OpenSpec.upto rangesDenotesSpec)) rangesDenotesUptoCard

/-- THE SECOND FORM's CARD OF 'kenninglaw04.RangesTexts'. -/
def rangesTextsUptoCard : Claim7 := { stood := { row := rangesTextsUptoRow, standIns := [], harness := (true, "f34ca13d863e80a6a1fdbc79a5fd90141db17ba05b21e4aecaa0fa46235915d3"), looks := true }, kinds := [], alts := [], laidByText := true, laidKinds := [.data, .data, .data, .data, .handle, .sentinel, .sentinel, .pinned], laidTests := true, laidLooks := .later }
def RangesTextsUptoCardSaid : Prop := Claim7.holds Tryz.pinned (.plain (OpenSpec.upto rangesTextsSpec)) rangesTextsUptoCard

/-- THE SECOND FORM's CARD OF 'kenninglaw04.RangesCheck'. -/
def rangesCheckUptoCard : Claim7 := { stood := { row := rangesCheckUptoRow, standIns := [], harness := (true, "f34ca13d863e80a6a1fdbc79a5fd90141db17ba05b21e4aecaa0fa46235915d3"), looks := true }, kinds := [], alts := [], laidByText := true, laidKinds := [.data, .data, .data, .data, .handle, .sentinel, .sentinel, .pinned], laidTests := true, laidLooks := .later }
def RangesCheckUptoCardSaid : Prop := Claim7.holds Tryz.pinned (.plain (OpenSpec.upto rangesCheckSpec)) rangesCheckUptoCard

/-- THE SECOND FORM's CARD OF 'kenninglaw04.RangesNormal'. -/
def rangesNormalUptoCard : Claim7 := { stood := { row := rangesNormalUptoRow, standIns := [], harness := (true, "f34ca13d863e80a6a1fdbc79a5fd90141db17ba05b21e4aecaa0fa46235915d3"), looks := true }, kinds := [], alts := [], laidByText := true, laidKinds := [.data, .data, .data, .data, .handle, .sentinel, .sentinel, .pinned], laidTests := true, laidLooks := .later }
def RangesNormalUptoCardSaid : Prop := Claim7.holds Tryz.pinned (.plain (OpenSpec.upto rangesNormalSpec)) rangesNormalUptoCard

/-- THE SECOND FORM's CARD OF 'kenninglaw04.RangesParses'. -/
def rangesParsesUptoCard : Claim7 := { stood := { row := rangesParsesUptoRow, standIns := [], harness := (true, "f34ca13d863e80a6a1fdbc79a5fd90141db17ba05b21e4aecaa0fa46235915d3"), looks := true }, kinds := [], alts := [], laidByText := true, laidKinds := [.data, .data, .data, .data, .handle, .sentinel, .sentinel, .pinned], laidTests := true, laidLooks := .later }
def RangesParsesUptoCardSaid : Prop := Claim7.holds Tryz.pinned (.plain (OpenSpec.upto rangesParsesSpec)) rangesParsesUptoCard
end Rows
end Go.Proofs.YtbiohohclnaocaaGreatDoor
