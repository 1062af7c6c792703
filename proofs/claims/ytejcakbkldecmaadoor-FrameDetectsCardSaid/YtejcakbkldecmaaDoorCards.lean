/-
  DERIVED. GIVEN WITH THE SEED: THE CARDS: each row of YtejcakbkldecmaaDoorRows.lean that lists a variable, with what it lists TIED to the program's text (the seventh form; the later family's looks); each row that meets fmt, with fmt's text TOLD by the authors' own Lean function (tested against real Go, not proved from fmt's source: count such statements apart). THE CARD IS WHAT COUNTS. Prove the row's statement (the work); the ties are given (YtejcakbkldecmaaDoorTie.lean); close each card by the builder's one call (the guide's Derived/Test/ToyasCard.lean, 'card_holds'). Laid BY PROGRAM, IN A SANDBOX (cutbox-door.mjs). By AI agents, Wed Nov 11 2026. No macro, syntax, notation, axiom, sorry.
-/
import Derived.Test.YtejcakbkldecmaaDoorRows
import GoSem.ClaimSeven
namespace Go.Proofs.YtejcakbkldecmaaDoor
namespace Rows

/-- THE TIED CARD OF 'kenninglaw21.FrameWrites'. -/
def frameWritesCard : Claim7 := { stood := { row := frameWritesRow, standIns := [], harness := (true, "7fc2cf1399b5de3ebfb51de38f97b2575cd4029ab49992228ada3b3513516303"), looks := true }, kinds := [], alts := [], laidByText := true, laidKinds := [.handle], laidTests := true, laidLooks := .later }
def FrameWritesCardSaid : Prop := Claim7.holds Tryd.pinned (.plain (OpenSpec.ofChange frameWritesSpec)) frameWritesCard

/-- THE TIED CARD OF 'kenninglaw21.FrameHeaders'. -/
def frameHeadersCard : Claim7 := { stood := { row := frameHeadersRow, standIns := [], harness := (true, "7fc2cf1399b5de3ebfb51de38f97b2575cd4029ab49992228ada3b3513516303"), looks := true }, kinds := [], alts := [], laidByText := true, laidKinds := [.handle], laidTests := true, laidLooks := .later }
def FrameHeadersCardSaid : Prop := Claim7.holds Tryd.pinned (.plain (OpenSpec.ofChange frameHeadersSpec)) frameHeadersCard

/-- THE TIED CARD OF 'kenninglaw21.FrameSplits'. -/
def frameSplitsCard : Claim7 := { stood := { row := frameSplitsRow, standIns := [], harness := (true, "7fc2cf1399b5de3ebfb51de38f97b2575cd4029ab49992228ada3b3513516303"), looks := true }, kinds := [], alts := [], laidByText := true, laidKinds := [.handle], laidTests := true, laidLooks := .later }
def FrameSplitsCardSaid : Prop := Claim7.holds Tryd.pinned (.plain (OpenSpec.ofChange frameSplitsSpec)) frameSplitsCard

/-- THE TIED CARD OF 'kenninglaw21.FrameDetects'. -/
def frameDetectsCard : Claim7 := { stood := { row := frameDetectsRow, standIns := [], harness := (true, "7fc2cf1399b5de3ebfb51de38f97b2575cd4029ab49992228ada3b3513516303"), looks := true }, kinds := [], alts := [], laidByText := true, laidKinds := [.handle], laidTests := true, laidLooks := .later }
def FrameDetectsCardSaid : Prop := Claim7.holds Tryd.pinned (.plain (OpenSpec.ofChange frameDetectsSpec)) frameDetectsCard

/-- THE SECOND FORM's CARD OF 'kenninglaw21.FrameWrites'. -/
def frameWritesUptoCard : Claim7 := { stood := { row := frameWritesUptoRow, standIns := [], harness := (true, "7fc2cf1399b5de3ebfb51de38f97b2575cd4029ab49992228ada3b3513516303"), looks := true }, kinds := [], alts := [], laidByText := true, laidKinds := [.handle], laidTests := true, laidLooks := .later }
def FrameWritesUptoCardSaid : Prop := Claim7.holds Tryd.pinned (.plain (OpenSpec.upto frameWritesSpec)) frameWritesUptoCard

/-- THE SECOND FORM's CARD OF 'kenninglaw21.FrameHeaders'. -/
def frameHeadersUptoCard : Claim7 := { stood := { row := frameHeadersUptoRow, standIns := [], harness := (true, "7fc2cf1399b5de3ebfb51de38f97b2575cd4029ab49992228ada3b3513516303"), looks := true }, kinds := [], alts := [], laidByText := true, laidKinds := [.handle], laidTests := true, laidLooks := .later }
def FrameHeadersUptoCardSaid : Prop := Claim7.holds Tryd.pinned (.plain (OpenSpec.upto frameHeadersSpec)) frameHeadersUptoCard

/-- THE SECOND FORM's CARD OF 'kenninglaw21.FrameSplits'. -/
def frameSplitsUptoCard : Claim7 := { stood := { row := frameSplitsUptoRow, standIns := [], harness := (true, "7fc2cf1399b5de3ebfb51de38f97b2575cd4029ab49992228ada3b3513516303"), looks := true }, kinds := [], alts := [], laidByText := true, laidKinds := [.handle], laidTests := true, laidLooks := .later }
def FrameSplitsUptoCardSaid : Prop := Claim7.holds Tryd.pinned (.plain (OpenSpec.upto frameSplitsSpec)) frameSplitsUptoCard

/-- THE SECOND FORM's CARD OF 'kenninglaw21.FrameDetects'. -/
def frameDetectsUptoCard : Claim7 := { stood := { row := frameDetectsUptoRow, standIns := [], harness := (true, "7fc2cf1399b5de3ebfb51de38f97b2575cd4029ab49992228ada3b3513516303"), looks := true }, kinds := [], alts := [], laidByText := true, laidKinds := [.handle], laidTests := true, laidLooks := .later }
def FrameDetectsUptoCardSaid : Prop := Claim7.holds Tryd.pinned (.plain (OpenSpec.upto frameDetectsSpec)) frameDetectsUptoCard
end Rows
end Go.Proofs.YtejcakbkldecmaaDoor
