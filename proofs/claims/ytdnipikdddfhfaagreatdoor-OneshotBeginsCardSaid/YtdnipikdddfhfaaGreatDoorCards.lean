/-
  DERIVED. GIVEN WITH THE SEED: THE CARDS: each row of YtdnipikdddfhfaaGreatDoorRows.lean that lists a variable, with what it lists TIED to the program's text (the seventh form; the later family's looks); each row that meets fmt, with fmt's text TOLD by the authors' own Lean function (tested against real Go, not proved from fmt's source: count such statements apart). THE CARD IS WHAT COUNTS. Prove the row's statement (the work); the ties are given (YtdnipikdddfhfaaGreatDoorTie.lean); close each card by the builder's one call (the guide's Derived/Test/ToyasCard.lean, 'card_holds'). Laid BY PROGRAM, IN A SANDBOX (cutbox-door.mjs). By AI agents, Wed Nov 11 2026. No macro, syntax, notation, axiom, sorry.
-/
import Derived.Test.YtdnipikdddfhfaaGreatDoorRows
import GoSem.ClaimSeven
namespace Go.Proofs.YtdnipikdddfhfaaGreatDoor
namespace Rows

/-- THE TIED CARD OF 'kenninglaw19.WireDecodes'. -/
def wireDecodesCard : Claim7 := { stood := { row := wireDecodesRow, standIns := [], harness := (true, "01b7e9e8a53796271c8a27be11d31b7b36851279936531fb3dc95d74eb1dc804"), looks := true }, kinds := [], alts := [], laidByText := true, laidKinds := [.handle], laidTests := true, laidLooks := .later }
def WireDecodesCardSaid : Prop := Claim7.holds Tryz.pinned (.plain (OpenSpec.ofChange wireDecodesSpec)) wireDecodesCard

/-- THE TIED CARD OF 'kenninglaw19.WireSteps'. -/
def wireStepsCard : Claim7 := { stood := { row := wireStepsRow, standIns := [], harness := (true, "01b7e9e8a53796271c8a27be11d31b7b36851279936531fb3dc95d74eb1dc804"), looks := true }, kinds := [], alts := [], laidByText := true, laidKinds := [.handle], laidTests := true, laidLooks := .later }
def WireStepsCardSaid : Prop := Claim7.holds Tryz.pinned (.plain (OpenSpec.ofChange wireStepsSpec)) wireStepsCard

/-- THE TIED CARD OF 'kenninglaw24.StreamChunks'. -/
def streamChunksCard : Claim7 := { stood := { row := streamChunksRow, standIns := [], harness := (true, "01b7e9e8a53796271c8a27be11d31b7b36851279936531fb3dc95d74eb1dc804"), looks := true }, kinds := [], alts := [], laidByText := true, laidKinds := [.handle], laidTests := true, laidLooks := .later }
def StreamChunksCardSaid : Prop := Claim7.holds Tryz.pinned (.plain (OpenSpec.ofChange streamChunksSpec)) streamChunksCard

/-- THE TIED CARD OF 'kenninglaw24.StreamBounds'. -/
def streamBoundsCard : Claim7 := { stood := { row := streamBoundsRow, standIns := [], harness := (true, "01b7e9e8a53796271c8a27be11d31b7b36851279936531fb3dc95d74eb1dc804"), looks := true }, kinds := [], alts := [], laidByText := true, laidKinds := [.handle], laidTests := true, laidLooks := .later }
def StreamBoundsCardSaid : Prop := Claim7.holds Tryz.pinned (.plain (OpenSpec.ofChange streamBoundsSpec)) streamBoundsCard

/-- THE TIED CARD OF 'kenninglaw24.StreamSteps'. -/
def streamStepsCard : Claim7 := { stood := { row := streamStepsRow, standIns := [], harness := (true, "01b7e9e8a53796271c8a27be11d31b7b36851279936531fb3dc95d74eb1dc804"), looks := true }, kinds := [], alts := [], laidByText := true, laidKinds := [.handle], laidTests := true, laidLooks := .later }
def StreamStepsCardSaid : Prop := Claim7.holds Tryz.pinned (.plain (OpenSpec.ofChange streamStepsSpec)) streamStepsCard

/-- THE TIED CARD OF 'kenninglaw24.StreamRests'. -/
def streamRestsCard : Claim7 := { stood := { row := streamRestsRow, standIns := [], harness := (true, "01b7e9e8a53796271c8a27be11d31b7b36851279936531fb3dc95d74eb1dc804"), looks := true }, kinds := [], alts := [], laidByText := true, laidKinds := [.handle], laidTests := true, laidLooks := .later }
def StreamRestsCardSaid : Prop := Claim7.holds Tryz.pinned (.plain (OpenSpec.ofChange streamRestsSpec)) streamRestsCard

/-- THE TIED CARD OF 'kenninglaw24.StreamEnds'. -/
def streamEndsCard : Claim7 := { stood := { row := streamEndsRow, standIns := [], harness := (true, "01b7e9e8a53796271c8a27be11d31b7b36851279936531fb3dc95d74eb1dc804"), looks := true }, kinds := [], alts := [], laidByText := true, laidKinds := [.handle], laidTests := true, laidLooks := .later }
def StreamEndsCardSaid : Prop := Claim7.holds Tryz.pinned (.plain (OpenSpec.ofChange streamEndsSpec)) streamEndsCard

/-- THE TIED CARD OF 'kenninglaw23.OneshotParses'. -/
def oneshotParsesCard : Claim7 := { stood := { row := oneshotParsesRow, standIns := [], harness := (true, "01b7e9e8a53796271c8a27be11d31b7b36851279936531fb3dc95d74eb1dc804"), looks := true }, kinds := [], alts := [], laidByText := true, laidKinds := [.handle], laidTests := true, laidLooks := .later }
def OneshotParsesCardSaid : Prop := Claim7.holds Tryz.pinned (.plain (OpenSpec.ofChange oneshotParsesSpec)) oneshotParsesCard

/-- THE TIED CARD OF 'kenninglaw23.OneshotStops'. -/
def oneshotStopsCard : Claim7 := { stood := { row := oneshotStopsRow, standIns := [], harness := (true, "01b7e9e8a53796271c8a27be11d31b7b36851279936531fb3dc95d74eb1dc804"), looks := true }, kinds := [], alts := [], laidByText := true, laidKinds := [.handle], laidTests := true, laidLooks := .later }
def OneshotStopsCardSaid : Prop := Claim7.holds Tryz.pinned (.plain (OpenSpec.ofChange oneshotStopsSpec)) oneshotStopsCard

/-- THE TIED CARD OF 'kenninglaw23.OneshotBegins'. -/
def oneshotBeginsCard : Claim7 := { stood := { row := oneshotBeginsRow, standIns := [], harness := (true, "01b7e9e8a53796271c8a27be11d31b7b36851279936531fb3dc95d74eb1dc804"), looks := true }, kinds := [], alts := [], laidByText := true, laidKinds := [.handle], laidTests := true, laidLooks := .later }
def OneshotBeginsCardSaid : Prop := Claim7.holds Tryz.pinned (.plain (OpenSpec.ofChange oneshotBeginsSpec)) oneshotBeginsCard

/-- THE TIED CARD OF 'kenninglaw23.OneshotErrors'. -/
def oneshotErrorsCard : Claim7 := { stood := { row := oneshotErrorsRow, standIns := [], harness := (true, "01b7e9e8a53796271c8a27be11d31b7b36851279936531fb3dc95d74eb1dc804"), looks := true }, kinds := [], alts := [], laidByText := true, laidKinds := [.handle], laidTests := true, laidLooks := .later }
def OneshotErrorsCardSaid : Prop := Claim7.holds Tryz.pinned (.plain (OpenSpec.ofChange oneshotErrorsSpec)) oneshotErrorsCard

/-- THE TIED CARD OF 'kenninglaw24.StreamPrefixes'. -/
def streamPrefixesCard : Claim7 := { stood := { row := streamPrefixesRow, standIns := [], harness := (true, "01b7e9e8a53796271c8a27be11d31b7b36851279936531fb3dc95d74eb1dc804"), looks := true }, kinds := [], alts := [], laidByText := true, laidKinds := [.handle], laidTests := true, laidLooks := .later }
def StreamPrefixesCardSaid : Prop := Claim7.holds Tryz.pinned (.plain (OpenSpec.ofChange streamPrefixesSpec)) streamPrefixesCard

/-- THE SECOND FORM's CARD OF 'kenninglaw19.WireDecodes'. -/
def wireDecodesUptoCard : Claim7 := { stood := { row := wireDecodesUptoRow, standIns := [], harness := (true, "01b7e9e8a53796271c8a27be11d31b7b36851279936531fb3dc95d74eb1dc804"), looks := true }, kinds := [], alts := [], laidByText := true, laidKinds := [.handle], laidTests := true, laidLooks := .later }
def WireDecodesUptoCardSaid : Prop := Claim7.holds Tryz.pinned (.plain (OpenSpec.upto wireDecodesSpec)) wireDecodesUptoCard

/-- THE SECOND FORM's CARD OF 'kenninglaw19.WireSteps'. -/
def wireStepsUptoCard : Claim7 := { stood := { row := wireStepsUptoRow, standIns := [], harness := (true, "01b7e9e8a53796271c8a27be11d31b7b36851279936531fb3dc95d74eb1dc804"), looks := true }, kinds := [], alts := [], laidByText := true, laidKinds := [.handle], laidTests := true, laidLooks := .later }
def WireStepsUptoCardSaid : Prop := Claim7.holds Tryz.pinned (.plain (OpenSpec.upto wireStepsSpec)) wireStepsUptoCard

/-- THE SECOND FORM's CARD OF 'kenninglaw24.StreamChunks'. -/
def streamChunksUptoCard : Claim7 := { stood := { row := streamChunksUptoRow, standIns := [], harness := (true, "01b7e9e8a53796271c8a27be11d31b7b36851279936531fb3dc95d74eb1dc804"), looks := true }, kinds := [], alts := [], laidByText := true, laidKinds := [.handle], laidTests := true, laidLooks := .later }
def StreamChunksUptoCardSaid : Prop := Claim7.holds Tryz.pinned (.plain (OpenSpec.upto streamChunksSpec)) streamChunksUptoCard

/-- THE SECOND FORM's CARD OF 'kenninglaw24.StreamBounds'. -/
def streamBoundsUptoCard : Claim7 := { stood := { row := streamBoundsUptoRow, standIns := [], harness := (true, "01b7e9e8a53796271c8a27be11d31b7b36851279936531fb3dc95d74eb1dc804"), looks := true }, kinds := [], alts := [], laidByText := true, laidKinds := [.handle], laidTests := true, laidLooks := .later }
def StreamBoundsUptoCardSaid : Prop := Claim7.holds Tryz.pinned (.plain (OpenSpec.upto streamBoundsSpec)) streamBoundsUptoCard

/-- THE SECOND FORM's CARD OF 'kenninglaw24.StreamSteps'. -/
def streamStepsUptoCard : Claim7 := { stood := { row := streamStepsUptoRow, standIns := [], harness := (true, "01b7e9e8a53796271c8a27be11d31b7b36851279936531fb3dc95d74eb1dc804"), looks := true }, kinds := [], alts := [], laidByText := true, laidKinds := [.handle], laidTests := true, laidLooks := .later }
def StreamStepsUptoCardSaid : Prop := Claim7.holds Tryz.pinned (.plain (OpenSpec.upto streamStepsSpec)) streamStepsUptoCard

/-- THE SECOND FORM's CARD OF 'kenninglaw24.StreamRests'. -/
def streamRestsUptoCard : Claim7 := { stood := { row := streamRestsUptoRow, standIns := [], harness := (true, "01b7e9e8a53796271c8a27be11d31b7b36851279936531fb3dc95d74eb1dc804"), looks := true }, kinds := [], alts := [], laidByText := true, laidKinds := [.handle], laidTests := true, laidLooks := .later }
def StreamRestsUptoCardSaid : Prop := Claim7.holds Tryz.pinned (.plain (OpenSpec.upto streamRestsSpec)) streamRestsUptoCard

/-- THE SECOND FORM's CARD OF 'kenninglaw24.StreamEnds'. -/
def streamEndsUptoCard : Claim7 := { stood := { row := streamEndsUptoRow, standIns := [], harness := (true, "01b7e9e8a53796271c8a27be11d31b7b36851279936531fb3dc95d74eb1dc804"), looks := true }, kinds := [], alts := [], laidByText := true, laidKinds := [.handle], laidTests := true, laidLooks := .later }
def StreamEndsUptoCardSaid : Prop := Claim7.holds Tryz.pinned (.plain (OpenSpec.upto streamEndsSpec)) streamEndsUptoCard

/-- THE SECOND FORM's CARD OF 'kenninglaw23.OneshotParses'. -/
def oneshotParsesUptoCard : Claim7 := { stood := { row := oneshotParsesUptoRow, standIns := [], harness := (true, "01b7e9e8a53796271c8a27be11d31b7b36851279936531fb3dc95d74eb1dc804"), looks := true }, kinds := [], alts := [], laidByText := true, laidKinds := [.handle], laidTests := true, laidLooks := .later }
def OneshotParsesUptoCardSaid : Prop := Claim7.holds Tryz.pinned (.plain (OpenSpec.upto oneshotParsesSpec)) oneshotParsesUptoCard

/-- THE SECOND FORM's CARD OF 'kenninglaw23.OneshotStops'. -/
def oneshotStopsUptoCard : Claim7 := { stood := { row := oneshotStopsUptoRow, standIns := [], harness := (true, "01b7e9e8a53796271c8a27be11d31b7b36851279936531fb3dc95d74eb1dc804"), looks := true }, kinds := [], alts := [], laidByText := true, laidKinds := [.handle], laidTests := true, laidLooks := .later }
def OneshotStopsUptoCardSaid : Prop := Claim7.holds Tryz.pinned (.plain (OpenSpec.upto oneshotStopsSpec)) oneshotStopsUptoCard

/-- THE SECOND FORM's CARD OF 'kenninglaw23.OneshotBegins'. -/
def oneshotBeginsUptoCard : Claim7 := { stood := { row := oneshotBeginsUptoRow, standIns := [], harness := (true, "01b7e9e8a53796271c8a27be11d31b7b36851279936531fb3dc95d74eb1dc804"), looks := true }, kinds := [], alts := [], laidByText := true, laidKinds := [.handle], laidTests := true, laidLooks := .later }
def OneshotBeginsUptoCardSaid : Prop := Claim7.holds Tryz.pinned (.plain (OpenSpec.upto oneshotBeginsSpec)) oneshotBeginsUptoCard

/-- THE SECOND FORM's CARD OF 'kenninglaw23.OneshotErrors'. -/
def oneshotErrorsUptoCard : Claim7 := { stood := { row := oneshotErrorsUptoRow, standIns := [], harness := (true, "01b7e9e8a53796271c8a27be11d31b7b36851279936531fb3dc95d74eb1dc804"), looks := true }, kinds := [], alts := [], laidByText := true, laidKinds := [.handle], laidTests := true, laidLooks := .later }
def OneshotErrorsUptoCardSaid : Prop := Claim7.holds Tryz.pinned (.plain (OpenSpec.upto oneshotErrorsSpec)) oneshotErrorsUptoCard

/-- THE SECOND FORM's CARD OF 'kenninglaw24.StreamPrefixes'. -/
def streamPrefixesUptoCard : Claim7 := { stood := { row := streamPrefixesUptoRow, standIns := [], harness := (true, "01b7e9e8a53796271c8a27be11d31b7b36851279936531fb3dc95d74eb1dc804"), looks := true }, kinds := [], alts := [], laidByText := true, laidKinds := [.handle], laidTests := true, laidLooks := .later }
def StreamPrefixesUptoCardSaid : Prop := Claim7.holds Tryz.pinned (.plain (OpenSpec.upto streamPrefixesSpec)) streamPrefixesUptoCard
end Rows
end Go.Proofs.YtdnipikdddfhfaaGreatDoor
