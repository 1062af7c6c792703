/-
  DERIVED. GIVEN WITH THE SEED: THE CARDS: each row of YtmfhggnlainmiaaGreatDoorRows.lean that lists a variable, with what it lists TIED to the program's text (the seventh form; the later family's looks); each row that meets fmt, with fmt's text TOLD by the authors' own Lean function (tested against real Go, not proved from fmt's source: count such statements apart). THE CARD IS WHAT COUNTS. Prove the row's statement (the work); the ties are given (YtmfhggnlainmiaaGreatDoorTie.lean); close each card by the builder's one call (the guide's Derived/Test/ToyasCard.lean, 'card_holds'). Laid BY PROGRAM, IN A SANDBOX (cutbox-door.mjs). By AI agents, Wed Nov 11 2026. No macro, syntax, notation, axiom, sorry.
-/
import Derived.Test.YtmfhggnlainmiaaGreatDoorRows
import GoSem.ClaimSeven
namespace Go.Proofs.YtmfhggnlainmiaaGreatDoor
namespace Rows

/-- THE TIED CARD OF 'kenningtop.TopAgrees'. -/
def topAgreesCard : Claim7 := { stood := { row := topAgreesRow, standIns := [], harness := (true, "dd42d714e851d1543cb17585fadfd7d71512602f226ac1338ef356715be31f1e"), looks := true }, kinds := [], alts := [], laidByText := true, laidKinds := [.handle], laidTests := true, laidLooks := .later }
def TopAgreesCardSaid : Prop := Claim7.holds Tryz.pinned (.plain (OpenSpec.ofChange topAgreesSpec)) topAgreesCard

/-- THE TIED CARD OF 'kenningtop.TopStreams'. -/
def topStreamsCard : Claim7 := { stood := { row := topStreamsRow, standIns := [], harness := (true, "dd42d714e851d1543cb17585fadfd7d71512602f226ac1338ef356715be31f1e"), looks := true }, kinds := [], alts := [], laidByText := true, laidKinds := [.handle], laidTests := true, laidLooks := .later }
def TopStreamsCardSaid : Prop := Claim7.holds Tryz.pinned (.plain (OpenSpec.ofChange topStreamsSpec)) topStreamsCard

/-- THE TIED CARD OF 'kenninglaw21.FrameEncodes'. -/
def frameEncodesCard : Claim7 := { stood := { row := frameEncodesRow, standIns := [], harness := (true, "dd42d714e851d1543cb17585fadfd7d71512602f226ac1338ef356715be31f1e"), looks := true }, kinds := [], alts := [], laidByText := true, laidKinds := [.handle], laidTests := true, laidLooks := .later }
def FrameEncodesCardSaid : Prop := Claim7.holds Tryz.pinned (.plain (OpenSpec.ofChange frameEncodesSpec)) frameEncodesCard

/-- THE TIED CARD OF 'kenninglaw19.WireSteps'. -/
def wireStepsCard : Claim7 := { stood := { row := wireStepsRow, standIns := [], harness := (true, "dd42d714e851d1543cb17585fadfd7d71512602f226ac1338ef356715be31f1e"), looks := true }, kinds := [], alts := [], laidByText := true, laidKinds := [.handle], laidTests := true, laidLooks := .later }
def WireStepsCardSaid : Prop := Claim7.holds Tryz.pinned (.plain (OpenSpec.ofChange wireStepsSpec)) wireStepsCard

/-- THE TIED CARD OF 'kenninglaw24.StreamChunks'. -/
def streamChunksCard : Claim7 := { stood := { row := streamChunksRow, standIns := [], harness := (true, "dd42d714e851d1543cb17585fadfd7d71512602f226ac1338ef356715be31f1e"), looks := true }, kinds := [], alts := [], laidByText := true, laidKinds := [.handle], laidTests := true, laidLooks := .later }
def StreamChunksCardSaid : Prop := Claim7.holds Tryz.pinned (.plain (OpenSpec.ofChange streamChunksSpec)) streamChunksCard

/-- THE TIED CARD OF 'kenninglaw24.StreamSteps'. -/
def streamStepsCard : Claim7 := { stood := { row := streamStepsRow, standIns := [], harness := (true, "dd42d714e851d1543cb17585fadfd7d71512602f226ac1338ef356715be31f1e"), looks := true }, kinds := [], alts := [], laidByText := true, laidKinds := [.handle], laidTests := true, laidLooks := .later }
def StreamStepsCardSaid : Prop := Claim7.holds Tryz.pinned (.plain (OpenSpec.ofChange streamStepsSpec)) streamStepsCard

/-- THE TIED CARD OF 'kenninglaw24.StreamRests'. -/
def streamRestsCard : Claim7 := { stood := { row := streamRestsRow, standIns := [], harness := (true, "dd42d714e851d1543cb17585fadfd7d71512602f226ac1338ef356715be31f1e"), looks := true }, kinds := [], alts := [], laidByText := true, laidKinds := [.handle], laidTests := true, laidLooks := .later }
def StreamRestsCardSaid : Prop := Claim7.holds Tryz.pinned (.plain (OpenSpec.ofChange streamRestsSpec)) streamRestsCard

/-- THE TIED CARD OF 'kenninglaw23.OneshotReads'. -/
def oneshotReadsCard : Claim7 := { stood := { row := oneshotReadsRow, standIns := [], harness := (true, "dd42d714e851d1543cb17585fadfd7d71512602f226ac1338ef356715be31f1e"), looks := true }, kinds := [], alts := [], laidByText := true, laidKinds := [.handle], laidTests := true, laidLooks := .later }
def OneshotReadsCardSaid : Prop := Claim7.holds Tryz.pinned (.plain (OpenSpec.ofChange oneshotReadsSpec)) oneshotReadsCard

/-- THE TIED CARD OF 'kenninglaw23.OneshotStops'. -/
def oneshotStopsCard : Claim7 := { stood := { row := oneshotStopsRow, standIns := [], harness := (true, "dd42d714e851d1543cb17585fadfd7d71512602f226ac1338ef356715be31f1e"), looks := true }, kinds := [], alts := [], laidByText := true, laidKinds := [.handle], laidTests := true, laidLooks := .later }
def OneshotStopsCardSaid : Prop := Claim7.holds Tryz.pinned (.plain (OpenSpec.ofChange oneshotStopsSpec)) oneshotStopsCard

/-- THE TIED CARD OF 'kenninglaw23.OneshotOnce'. -/
def oneshotOnceCard : Claim7 := { stood := { row := oneshotOnceRow, standIns := [], harness := (true, "dd42d714e851d1543cb17585fadfd7d71512602f226ac1338ef356715be31f1e"), looks := true }, kinds := [], alts := [], laidByText := true, laidKinds := [.handle, .data], laidTests := true, laidLooks := .later }
def OneshotOnceCardSaid : Prop := Claim7.holds Tryz.pinned (.plain (OpenSpec.ofChange oneshotOnceSpec)) oneshotOnceCard

/-- THE TIED CARD OF 'kenninglaw24.StreamPrefixes'. -/
def streamPrefixesCard : Claim7 := { stood := { row := streamPrefixesRow, standIns := [], harness := (true, "dd42d714e851d1543cb17585fadfd7d71512602f226ac1338ef356715be31f1e"), looks := true }, kinds := [], alts := [], laidByText := true, laidKinds := [.handle], laidTests := true, laidLooks := .later }
def StreamPrefixesCardSaid : Prop := Claim7.holds Tryz.pinned (.plain (OpenSpec.ofChange streamPrefixesSpec)) streamPrefixesCard

/-- THE SECOND FORM's CARD OF 'kenningtop.TopAgrees'. -/
def topAgreesUptoCard : Claim7 := { stood := { row := topAgreesUptoRow, standIns := [], harness := (true, "dd42d714e851d1543cb17585fadfd7d71512602f226ac1338ef356715be31f1e"), looks := true }, kinds := [], alts := [], laidByText := true, laidKinds := [.handle], laidTests := true, laidLooks := .later }
def TopAgreesUptoCardSaid : Prop := Claim7.holds Tryz.pinned (.plain (OpenSpec.upto topAgreesSpec)) topAgreesUptoCard

/-- THE SECOND FORM's CARD OF 'kenningtop.TopStreams'. -/
def topStreamsUptoCard : Claim7 := { stood := { row := topStreamsUptoRow, standIns := [], harness := (true, "dd42d714e851d1543cb17585fadfd7d71512602f226ac1338ef356715be31f1e"), looks := true }, kinds := [], alts := [], laidByText := true, laidKinds := [.handle], laidTests := true, laidLooks := .later }
def TopStreamsUptoCardSaid : Prop := Claim7.holds Tryz.pinned (.plain (OpenSpec.upto topStreamsSpec)) topStreamsUptoCard

/-- THE SECOND FORM's CARD OF 'kenninglaw21.FrameEncodes'. -/
def frameEncodesUptoCard : Claim7 := { stood := { row := frameEncodesUptoRow, standIns := [], harness := (true, "dd42d714e851d1543cb17585fadfd7d71512602f226ac1338ef356715be31f1e"), looks := true }, kinds := [], alts := [], laidByText := true, laidKinds := [.handle], laidTests := true, laidLooks := .later }
def FrameEncodesUptoCardSaid : Prop := Claim7.holds Tryz.pinned (.plain (OpenSpec.upto frameEncodesSpec)) frameEncodesUptoCard

/-- THE SECOND FORM's CARD OF 'kenninglaw19.WireSteps'. -/
def wireStepsUptoCard : Claim7 := { stood := { row := wireStepsUptoRow, standIns := [], harness := (true, "dd42d714e851d1543cb17585fadfd7d71512602f226ac1338ef356715be31f1e"), looks := true }, kinds := [], alts := [], laidByText := true, laidKinds := [.handle], laidTests := true, laidLooks := .later }
def WireStepsUptoCardSaid : Prop := Claim7.holds Tryz.pinned (.plain (OpenSpec.upto wireStepsSpec)) wireStepsUptoCard

/-- THE SECOND FORM's CARD OF 'kenninglaw24.StreamChunks'. -/
def streamChunksUptoCard : Claim7 := { stood := { row := streamChunksUptoRow, standIns := [], harness := (true, "dd42d714e851d1543cb17585fadfd7d71512602f226ac1338ef356715be31f1e"), looks := true }, kinds := [], alts := [], laidByText := true, laidKinds := [.handle], laidTests := true, laidLooks := .later }
def StreamChunksUptoCardSaid : Prop := Claim7.holds Tryz.pinned (.plain (OpenSpec.upto streamChunksSpec)) streamChunksUptoCard

/-- THE SECOND FORM's CARD OF 'kenninglaw24.StreamSteps'. -/
def streamStepsUptoCard : Claim7 := { stood := { row := streamStepsUptoRow, standIns := [], harness := (true, "dd42d714e851d1543cb17585fadfd7d71512602f226ac1338ef356715be31f1e"), looks := true }, kinds := [], alts := [], laidByText := true, laidKinds := [.handle], laidTests := true, laidLooks := .later }
def StreamStepsUptoCardSaid : Prop := Claim7.holds Tryz.pinned (.plain (OpenSpec.upto streamStepsSpec)) streamStepsUptoCard

/-- THE SECOND FORM's CARD OF 'kenninglaw24.StreamRests'. -/
def streamRestsUptoCard : Claim7 := { stood := { row := streamRestsUptoRow, standIns := [], harness := (true, "dd42d714e851d1543cb17585fadfd7d71512602f226ac1338ef356715be31f1e"), looks := true }, kinds := [], alts := [], laidByText := true, laidKinds := [.handle], laidTests := true, laidLooks := .later }
def StreamRestsUptoCardSaid : Prop := Claim7.holds Tryz.pinned (.plain (OpenSpec.upto streamRestsSpec)) streamRestsUptoCard

/-- THE SECOND FORM's CARD OF 'kenninglaw23.OneshotReads'. -/
def oneshotReadsUptoCard : Claim7 := { stood := { row := oneshotReadsUptoRow, standIns := [], harness := (true, "dd42d714e851d1543cb17585fadfd7d71512602f226ac1338ef356715be31f1e"), looks := true }, kinds := [], alts := [], laidByText := true, laidKinds := [.handle], laidTests := true, laidLooks := .later }
def OneshotReadsUptoCardSaid : Prop := Claim7.holds Tryz.pinned (.plain (OpenSpec.upto oneshotReadsSpec)) oneshotReadsUptoCard

/-- THE SECOND FORM's CARD OF 'kenninglaw23.OneshotStops'. -/
def oneshotStopsUptoCard : Claim7 := { stood := { row := oneshotStopsUptoRow, standIns := [], harness := (true, "dd42d714e851d1543cb17585fadfd7d71512602f226ac1338ef356715be31f1e"), looks := true }, kinds := [], alts := [], laidByText := true, laidKinds := [.handle], laidTests := true, laidLooks := .later }
def OneshotStopsUptoCardSaid : Prop := Claim7.holds Tryz.pinned (.plain (OpenSpec.upto oneshotStopsSpec)) oneshotStopsUptoCard

/-- THE SECOND FORM's CARD OF 'kenninglaw23.OneshotOnce'. -/
def oneshotOnceUptoCard : Claim7 := { stood := { row := oneshotOnceUptoRow, standIns := [], harness := (true, "dd42d714e851d1543cb17585fadfd7d71512602f226ac1338ef356715be31f1e"), looks := true }, kinds := [], alts := [], laidByText := true, laidKinds := [.handle, .data], laidTests := true, laidLooks := .later }
def OneshotOnceUptoCardSaid : Prop := Claim7.holds Tryz.pinned (.plain (OpenSpec.upto oneshotOnceSpec)) oneshotOnceUptoCard

/-- THE SECOND FORM's CARD OF 'kenninglaw24.StreamPrefixes'. -/
def streamPrefixesUptoCard : Claim7 := { stood := { row := streamPrefixesUptoRow, standIns := [], harness := (true, "dd42d714e851d1543cb17585fadfd7d71512602f226ac1338ef356715be31f1e"), looks := true }, kinds := [], alts := [], laidByText := true, laidKinds := [.handle], laidTests := true, laidLooks := .later }
def StreamPrefixesUptoCardSaid : Prop := Claim7.holds Tryz.pinned (.plain (OpenSpec.upto streamPrefixesSpec)) streamPrefixesUptoCard
end Rows
end Go.Proofs.YtmfhggnlainmiaaGreatDoor
