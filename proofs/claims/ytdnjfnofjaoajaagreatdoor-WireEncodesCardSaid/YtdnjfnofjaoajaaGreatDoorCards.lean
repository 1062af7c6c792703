/-
  DERIVED. GIVEN WITH THE SEED: THE CARDS: each row of YtdnjfnofjaoajaaGreatDoorRows.lean that lists a variable, with what it lists TIED to the program's text (the seventh form; the later family's looks); each row that meets fmt, with fmt's text TOLD by the authors' own Lean function (tested against real Go, not proved from fmt's source: count such statements apart). THE CARD IS WHAT COUNTS. Prove the row's statement (the work); the ties are given (YtdnjfnofjaoajaaGreatDoorTie.lean); close each card by the builder's one call (the guide's Derived/Test/ToyasCard.lean, 'card_holds'). Laid BY PROGRAM, IN A SANDBOX (cutbox-door.mjs). By AI agents, Wed Nov 11 2026. No macro, syntax, notation, axiom, sorry.
-/
import Derived.Test.YtdnjfnofjaoajaaGreatDoorRows
import GoSem.ClaimSeven
namespace Go.Proofs.YtdnjfnofjaoajaaGreatDoor
namespace Rows

/-- THE TIED CARD OF 'kenninglaw21.FrameEncodes'. -/
def frameEncodesCard : Claim7 := { stood := { row := frameEncodesRow, standIns := [], harness := (true, "da39d8f659286bc17b06aa4b155dc57a21f87caef04f8d8eef9d850f2253154d"), looks := true }, kinds := [], alts := [], laidByText := true, laidKinds := [.handle], laidTests := true, laidLooks := .later }
def FrameEncodesCardSaid : Prop := Claim7.holds Tryz.pinned (.plain (OpenSpec.ofChange frameEncodesSpec)) frameEncodesCard

/-- THE TIED CARD OF 'kenninglaw19.WireDecodes'. -/
def wireDecodesCard : Claim7 := { stood := { row := wireDecodesRow, standIns := [], harness := (true, "da39d8f659286bc17b06aa4b155dc57a21f87caef04f8d8eef9d850f2253154d"), looks := true }, kinds := [], alts := [], laidByText := true, laidKinds := [.handle], laidTests := true, laidLooks := .later }
def WireDecodesCardSaid : Prop := Claim7.holds Tryz.pinned (.plain (OpenSpec.ofChange wireDecodesSpec)) wireDecodesCard

/-- THE TIED CARD OF 'kenninglaw19.WireSteps'. -/
def wireStepsCard : Claim7 := { stood := { row := wireStepsRow, standIns := [], harness := (true, "da39d8f659286bc17b06aa4b155dc57a21f87caef04f8d8eef9d850f2253154d"), looks := true }, kinds := [], alts := [], laidByText := true, laidKinds := [.handle], laidTests := true, laidLooks := .later }
def WireStepsCardSaid : Prop := Claim7.holds Tryz.pinned (.plain (OpenSpec.ofChange wireStepsSpec)) wireStepsCard

/-- THE TIED CARD OF 'kenninglaw19.WireCuts'. -/
def wireCutsCard : Claim7 := { stood := { row := wireCutsRow, standIns := [], harness := (true, "da39d8f659286bc17b06aa4b155dc57a21f87caef04f8d8eef9d850f2253154d"), looks := true }, kinds := [], alts := [], laidByText := true, laidKinds := [.handle], laidTests := true, laidLooks := .later }
def WireCutsCardSaid : Prop := Claim7.holds Tryz.pinned (.plain (OpenSpec.ofChange wireCutsSpec)) wireCutsCard

/-- THE TIED CARD OF 'kenninglaw19.WireDiffers'. -/
def wireDiffersCard : Claim7 := { stood := { row := wireDiffersRow, standIns := [], harness := (true, "da39d8f659286bc17b06aa4b155dc57a21f87caef04f8d8eef9d850f2253154d"), looks := true }, kinds := [], alts := [], laidByText := true, laidKinds := [.handle], laidTests := true, laidLooks := .later }
def WireDiffersCardSaid : Prop := Claim7.holds Tryz.pinned (.plain (OpenSpec.ofChange wireDiffersSpec)) wireDiffersCard

/-- THE TIED CARD OF 'kenninglaw19.WireEncodes'. -/
def wireEncodesCard : Claim7 := { stood := { row := wireEncodesRow, standIns := [], harness := (true, "da39d8f659286bc17b06aa4b155dc57a21f87caef04f8d8eef9d850f2253154d"), looks := true }, kinds := [], alts := [], laidByText := true, laidKinds := [.handle], laidTests := true, laidLooks := .later }
def WireEncodesCardSaid : Prop := Claim7.holds Tryz.pinned (.plain (OpenSpec.ofChange wireEncodesSpec)) wireEncodesCard

/-- THE TIED CARD OF 'kenninglaw19.WireIsCanonical'. -/
def wireIsCanonicalCard : Claim7 := { stood := { row := wireIsCanonicalRow, standIns := [], harness := (true, "da39d8f659286bc17b06aa4b155dc57a21f87caef04f8d8eef9d850f2253154d"), looks := true }, kinds := [], alts := [], laidByText := true, laidKinds := [.handle, .data], laidTests := true, laidLooks := .later }
def WireIsCanonicalCardSaid : Prop := Claim7.holds Tryz.pinned (.plain (OpenSpec.ofChange wireIsCanonicalSpec)) wireIsCanonicalCard

/-- THE TIED CARD OF 'kenninglaw22.LimitsDecode'. -/
def limitsDecodeCard : Claim7 := { stood := { row := limitsDecodeRow, standIns := [], harness := (true, "da39d8f659286bc17b06aa4b155dc57a21f87caef04f8d8eef9d850f2253154d"), looks := true }, kinds := [], alts := [], laidByText := true, laidKinds := [.handle], laidTests := true, laidLooks := .later }
def LimitsDecodeCardSaid : Prop := Claim7.holds Tryz.pinned (.plain (OpenSpec.ofChange limitsDecodeSpec)) limitsDecodeCard

/-- THE TIED CARD OF 'kenninglaw22.LimitsUnlimited'. -/
def limitsUnlimitedCard : Claim7 := { stood := { row := limitsUnlimitedRow, standIns := [], harness := (true, "da39d8f659286bc17b06aa4b155dc57a21f87caef04f8d8eef9d850f2253154d"), looks := true }, kinds := [], alts := [], laidByText := true, laidKinds := [.handle], laidTests := true, laidLooks := .later }
def LimitsUnlimitedCardSaid : Prop := Claim7.holds Tryz.pinned (.plain (OpenSpec.ofChange limitsUnlimitedSpec)) limitsUnlimitedCard

/-- THE SECOND FORM's CARD OF 'kenninglaw21.FrameEncodes'. -/
def frameEncodesUptoCard : Claim7 := { stood := { row := frameEncodesUptoRow, standIns := [], harness := (true, "da39d8f659286bc17b06aa4b155dc57a21f87caef04f8d8eef9d850f2253154d"), looks := true }, kinds := [], alts := [], laidByText := true, laidKinds := [.handle], laidTests := true, laidLooks := .later }
def FrameEncodesUptoCardSaid : Prop := Claim7.holds Tryz.pinned (.plain (OpenSpec.upto frameEncodesSpec)) frameEncodesUptoCard

/-- THE SECOND FORM's CARD OF 'kenninglaw19.WireDecodes'. -/
def wireDecodesUptoCard : Claim7 := { stood := { row := wireDecodesUptoRow, standIns := [], harness := (true, "da39d8f659286bc17b06aa4b155dc57a21f87caef04f8d8eef9d850f2253154d"), looks := true }, kinds := [], alts := [], laidByText := true, laidKinds := [.handle], laidTests := true, laidLooks := .later }
def WireDecodesUptoCardSaid : Prop := Claim7.holds Tryz.pinned (.plain (OpenSpec.upto wireDecodesSpec)) wireDecodesUptoCard

/-- THE SECOND FORM's CARD OF 'kenninglaw19.WireSteps'. -/
def wireStepsUptoCard : Claim7 := { stood := { row := wireStepsUptoRow, standIns := [], harness := (true, "da39d8f659286bc17b06aa4b155dc57a21f87caef04f8d8eef9d850f2253154d"), looks := true }, kinds := [], alts := [], laidByText := true, laidKinds := [.handle], laidTests := true, laidLooks := .later }
def WireStepsUptoCardSaid : Prop := Claim7.holds Tryz.pinned (.plain (OpenSpec.upto wireStepsSpec)) wireStepsUptoCard

/-- THE SECOND FORM's CARD OF 'kenninglaw19.WireCuts'. -/
def wireCutsUptoCard : Claim7 := { stood := { row := wireCutsUptoRow, standIns := [], harness := (true, "da39d8f659286bc17b06aa4b155dc57a21f87caef04f8d8eef9d850f2253154d"), looks := true }, kinds := [], alts := [], laidByText := true, laidKinds := [.handle], laidTests := true, laidLooks := .later }
def WireCutsUptoCardSaid : Prop := Claim7.holds Tryz.pinned (.plain (OpenSpec.upto wireCutsSpec)) wireCutsUptoCard

/-- THE SECOND FORM's CARD OF 'kenninglaw19.WireDiffers'. -/
def wireDiffersUptoCard : Claim7 := { stood := { row := wireDiffersUptoRow, standIns := [], harness := (true, "da39d8f659286bc17b06aa4b155dc57a21f87caef04f8d8eef9d850f2253154d"), looks := true }, kinds := [], alts := [], laidByText := true, laidKinds := [.handle], laidTests := true, laidLooks := .later }
def WireDiffersUptoCardSaid : Prop := Claim7.holds Tryz.pinned (.plain (OpenSpec.upto wireDiffersSpec)) wireDiffersUptoCard

/-- THE SECOND FORM's CARD OF 'kenninglaw19.WireEncodes'. -/
def wireEncodesUptoCard : Claim7 := { stood := { row := wireEncodesUptoRow, standIns := [], harness := (true, "da39d8f659286bc17b06aa4b155dc57a21f87caef04f8d8eef9d850f2253154d"), looks := true }, kinds := [], alts := [], laidByText := true, laidKinds := [.handle], laidTests := true, laidLooks := .later }
def WireEncodesUptoCardSaid : Prop := Claim7.holds Tryz.pinned (.plain (OpenSpec.upto wireEncodesSpec)) wireEncodesUptoCard

/-- THE SECOND FORM's CARD OF 'kenninglaw19.WireIsCanonical'. -/
def wireIsCanonicalUptoCard : Claim7 := { stood := { row := wireIsCanonicalUptoRow, standIns := [], harness := (true, "da39d8f659286bc17b06aa4b155dc57a21f87caef04f8d8eef9d850f2253154d"), looks := true }, kinds := [], alts := [], laidByText := true, laidKinds := [.handle, .data], laidTests := true, laidLooks := .later }
def WireIsCanonicalUptoCardSaid : Prop := Claim7.holds Tryz.pinned (.plain (OpenSpec.upto wireIsCanonicalSpec)) wireIsCanonicalUptoCard

/-- THE SECOND FORM's CARD OF 'kenninglaw22.LimitsDecode'. -/
def limitsDecodeUptoCard : Claim7 := { stood := { row := limitsDecodeUptoRow, standIns := [], harness := (true, "da39d8f659286bc17b06aa4b155dc57a21f87caef04f8d8eef9d850f2253154d"), looks := true }, kinds := [], alts := [], laidByText := true, laidKinds := [.handle], laidTests := true, laidLooks := .later }
def LimitsDecodeUptoCardSaid : Prop := Claim7.holds Tryz.pinned (.plain (OpenSpec.upto limitsDecodeSpec)) limitsDecodeUptoCard

/-- THE SECOND FORM's CARD OF 'kenninglaw22.LimitsUnlimited'. -/
def limitsUnlimitedUptoCard : Claim7 := { stood := { row := limitsUnlimitedUptoRow, standIns := [], harness := (true, "da39d8f659286bc17b06aa4b155dc57a21f87caef04f8d8eef9d850f2253154d"), looks := true }, kinds := [], alts := [], laidByText := true, laidKinds := [.handle], laidTests := true, laidLooks := .later }
def LimitsUnlimitedUptoCardSaid : Prop := Claim7.holds Tryz.pinned (.plain (OpenSpec.upto limitsUnlimitedSpec)) limitsUnlimitedUptoCard
end Rows
end Go.Proofs.YtdnjfnofjaoajaaGreatDoor
