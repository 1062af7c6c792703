/-
  DERIVED. GIVEN WITH THE SEED: THE CARDS: each row of YtlkchfhcfccaoaaGreatDoorRows.lean that lists a variable, with what it lists TIED to the program's text (the seventh form; the later family's looks); each row that meets fmt, with fmt's text TOLD by the authors' own Lean function (tested against real Go, not proved from fmt's source: count such statements apart). THE CARD IS WHAT COUNTS. Prove the row's statement (the work); the ties are given (YtlkchfhcfccaoaaGreatDoorTie.lean); close each card by the builder's one call (the guide's Derived/Test/ToyasCard.lean, 'card_holds'). Laid BY PROGRAM, IN A SANDBOX (cutbox-door.mjs). By AI agents, Wed Nov 11 2026. No macro, syntax, notation, axiom, sorry.
-/
import Derived.Test.YtlkchfhcfccaoaaGreatDoorRows
import GoSem.ClaimSeven
namespace Go.Proofs.YtlkchfhcfccaoaaGreatDoor
namespace Rows

/-- THE TIED CARD OF 'kenninglaw13.CanonMatches'. -/
def canonMatchesCard : Claim7 := { stood := { row := canonMatchesRow, standIns := [], harness := (true, "7728a00e54d6da6503bd56694fafb63be49cf59ea55fc72559c7c9aaabc5ab4a"), looks := true }, kinds := [], alts := [], laidByText := true, laidKinds := [.handle, .data], laidTests := true, laidLooks := .later }
def CanonMatchesCardSaid : Prop := Claim7.holds Tryz.pinned (.plain (OpenSpec.ofChange canonMatchesSpec)) canonMatchesCard

/-- THE TIED CARD OF 'kenninglaw13.CanonOrder'. -/
def canonOrderCard : Claim7 := { stood := { row := canonOrderRow, standIns := [], harness := (true, "7728a00e54d6da6503bd56694fafb63be49cf59ea55fc72559c7c9aaabc5ab4a"), looks := true }, kinds := [], alts := [], laidByText := true, laidKinds := [.handle, .data], laidTests := true, laidLooks := .later }
def CanonOrderCardSaid : Prop := Claim7.holds Tryz.pinned (.plain (OpenSpec.ofChange canonOrderSpec)) canonOrderCard

/-- THE TIED CARD OF 'kenninglaw13.CanonChecks'. -/
def canonChecksCard : Claim7 := { stood := { row := canonChecksRow, standIns := [], harness := (true, "7728a00e54d6da6503bd56694fafb63be49cf59ea55fc72559c7c9aaabc5ab4a"), looks := true }, kinds := [], alts := [], laidByText := true, laidKinds := [.handle, .data], laidTests := true, laidLooks := .later }
def CanonChecksCardSaid : Prop := Claim7.holds Tryz.pinned (.plain (OpenSpec.ofChange canonChecksSpec)) canonChecksCard

/-- THE TIED CARD OF 'kenninglaw13.CanonDenotes'. -/
def canonDenotesCard : Claim7 := { stood := { row := canonDenotesRow, standIns := [], harness := (true, "7728a00e54d6da6503bd56694fafb63be49cf59ea55fc72559c7c9aaabc5ab4a"), looks := true }, kinds := [], alts := [], laidByText := true, laidKinds := [.handle, .data], laidTests := true, laidLooks := .later }
def CanonDenotesCardSaid : Prop := Claim7.holds Tryz.pinned (.plain (OpenSpec.ofChange canonDenotesSpec)) canonDenotesCard

/-- THE TIED CARD OF 'kenninglaw13.CanonSegments'. -/
def canonSegmentsCard : Claim7 := { stood := { row := canonSegmentsRow, standIns := [], harness := (true, "7728a00e54d6da6503bd56694fafb63be49cf59ea55fc72559c7c9aaabc5ab4a"), looks := true }, kinds := [], alts := [], laidByText := true, laidKinds := [.handle, .data], laidTests := true, laidLooks := .later }
def CanonSegmentsCardSaid : Prop := Claim7.holds Tryz.pinned (.plain (OpenSpec.ofChange canonSegmentsSpec)) canonSegmentsCard

/-- THE TIED CARD OF 'kenninglaw13.CanonBuilds'. -/
def canonBuildsCard : Claim7 := { stood := { row := canonBuildsRow, standIns := [], harness := (true, "7728a00e54d6da6503bd56694fafb63be49cf59ea55fc72559c7c9aaabc5ab4a"), looks := true }, kinds := [], alts := [], laidByText := true, laidKinds := [.handle, .data], laidTests := true, laidLooks := .later }
def CanonBuildsCardSaid : Prop := Claim7.holds Tryz.pinned (.plain (OpenSpec.ofChange canonBuildsSpec)) canonBuildsCard

/-- THE SECOND FORM's CARD OF 'kenninglaw13.CanonMatches'. -/
def canonMatchesUptoCard : Claim7 := { stood := { row := canonMatchesUptoRow, standIns := [], harness := (true, "7728a00e54d6da6503bd56694fafb63be49cf59ea55fc72559c7c9aaabc5ab4a"), looks := true }, kinds := [], alts := [], laidByText := true, laidKinds := [.handle, .data], laidTests := true, laidLooks := .later }
def CanonMatchesUptoCardSaid : Prop := Claim7.holds Tryz.pinned (.plain (OpenSpec.upto canonMatchesSpec)) canonMatchesUptoCard

/-- THE SECOND FORM's CARD OF 'kenninglaw13.CanonOrder'. -/
def canonOrderUptoCard : Claim7 := { stood := { row := canonOrderUptoRow, standIns := [], harness := (true, "7728a00e54d6da6503bd56694fafb63be49cf59ea55fc72559c7c9aaabc5ab4a"), looks := true }, kinds := [], alts := [], laidByText := true, laidKinds := [.handle, .data], laidTests := true, laidLooks := .later }
def CanonOrderUptoCardSaid : Prop := Claim7.holds Tryz.pinned (.plain (OpenSpec.upto canonOrderSpec)) canonOrderUptoCard

/-- THE SECOND FORM's CARD OF 'kenninglaw13.CanonChecks'. -/
def canonChecksUptoCard : Claim7 := { stood := { row := canonChecksUptoRow, standIns := [], harness := (true, "7728a00e54d6da6503bd56694fafb63be49cf59ea55fc72559c7c9aaabc5ab4a"), looks := true }, kinds := [], alts := [], laidByText := true, laidKinds := [.handle, .data], laidTests := true, laidLooks := .later }
def CanonChecksUptoCardSaid : Prop := Claim7.holds Tryz.pinned (.plain (OpenSpec.upto canonChecksSpec)) canonChecksUptoCard

/-- THE SECOND FORM's CARD OF 'kenninglaw13.CanonDenotes'. -/
def canonDenotesUptoCard : Claim7 := { stood := { row := canonDenotesUptoRow, standIns := [], harness := (true, "7728a00e54d6da6503bd56694fafb63be49cf59ea55fc72559c7c9aaabc5ab4a"), looks := true }, kinds := [], alts := [], laidByText := true, laidKinds := [.handle, .data], laidTests := true, laidLooks := .later }
def CanonDenotesUptoCardSaid : Prop := Claim7.holds Tryz.pinned (.plain (OpenSpec.upto canonDenotesSpec)) canonDenotesUptoCard

/-- THE SECOND FORM's CARD OF 'kenninglaw13.CanonSegments'. -/
def canonSegmentsUptoCard : Claim7 := { stood := { row := canonSegmentsUptoRow, standIns := [], harness := (true, "7728a00e54d6da6503bd56694fafb63be49cf59ea55fc72559c7c9aaabc5ab4a"), looks := true }, kinds := [], alts := [], laidByText := true, laidKinds := [.handle, .data], laidTests := true, laidLooks := .later }
def CanonSegmentsUptoCardSaid : Prop := Claim7.holds Tryz.pinned (.plain (OpenSpec.upto canonSegmentsSpec)) canonSegmentsUptoCard

/-- THE SECOND FORM's CARD OF 'kenninglaw13.CanonBuilds'. -/
def canonBuildsUptoCard : Claim7 := { stood := { row := canonBuildsUptoRow, standIns := [], harness := (true, "7728a00e54d6da6503bd56694fafb63be49cf59ea55fc72559c7c9aaabc5ab4a"), looks := true }, kinds := [], alts := [], laidByText := true, laidKinds := [.handle, .data], laidTests := true, laidLooks := .later }
def CanonBuildsUptoCardSaid : Prop := Claim7.holds Tryz.pinned (.plain (OpenSpec.upto canonBuildsSpec)) canonBuildsUptoCard
end Rows
end Go.Proofs.YtlkchfhcfccaoaaGreatDoor
