/-
  DERIVED. GIVEN WITH THE SEED: THE CARDS: each row of YtkkdlgcfcbaibaaGreatDoorRows.lean that lists a variable, with what it lists TIED to the program's text (the seventh form; the later family's looks); each row that meets fmt, with fmt's text TOLD by the authors' own Lean function (tested against real Go, not proved from fmt's source: count such statements apart). THE CARD IS WHAT COUNTS. Prove the row's statement (the work); the ties are given (YtkkdlgcfcbaibaaGreatDoorTie.lean); close each card by the builder's one call (the guide's Derived/Test/ToyasCard.lean, 'card_holds'). Laid BY PROGRAM, IN A SANDBOX (cutbox-door.mjs). By AI agents, Wed Nov 11 2026. No macro, syntax, notation, axiom, sorry.
-/
import Derived.Test.YtkkdlgcfcbaibaaGreatDoorRows
import GoSem.ClaimSeven
namespace Go.Proofs.YtkkdlgcfcbaibaaGreatDoor
namespace Rows

/-- THE TIED CARD OF 'kenninglaw13.CanonSegments'. -/
def canonSegmentsCard : Claim7 := { stood := { row := canonSegmentsRow, standIns := [], harness := (true, "25d19dcab116e15682ad809ae680c1f29a0969dd7137c806280c87f6ab23bbb3"), looks := true }, kinds := [], alts := [], laidByText := true, laidKinds := [.handle, .data], laidTests := true, laidLooks := .later }
def CanonSegmentsCardSaid : Prop := Claim7.holds Tryz.pinned (.plain (OpenSpec.ofChange canonSegmentsSpec)) canonSegmentsCard

/-- THE TIED CARD OF 'kenninglaw22.LimitsCheck'. -/
def limitsCheckCard : Claim7 := { stood := { row := limitsCheckRow, standIns := [], harness := (true, "25d19dcab116e15682ad809ae680c1f29a0969dd7137c806280c87f6ab23bbb3"), looks := true }, kinds := [], alts := [], laidByText := true, laidKinds := [.handle], laidTests := true, laidLooks := .later }
def LimitsCheckCardSaid : Prop := Claim7.holds Tryz.pinned (.plain (OpenSpec.ofChange limitsCheckSpec)) limitsCheckCard

/-- THE TIED CARD OF 'kenninglaw22.LimitsRelate'. -/
def limitsRelateCard : Claim7 := { stood := { row := limitsRelateRow, standIns := [], harness := (true, "25d19dcab116e15682ad809ae680c1f29a0969dd7137c806280c87f6ab23bbb3"), looks := true }, kinds := [], alts := [], laidByText := true, laidKinds := [.handle], laidTests := true, laidLooks := .later }
def LimitsRelateCardSaid : Prop := Claim7.holds Tryz.pinned (.plain (OpenSpec.ofChange limitsRelateSpec)) limitsRelateCard

/-- THE TIED CARD OF 'kenninglaw13.CanonBuilds'. -/
def canonBuildsCard : Claim7 := { stood := { row := canonBuildsRow, standIns := [], harness := (true, "25d19dcab116e15682ad809ae680c1f29a0969dd7137c806280c87f6ab23bbb3"), looks := true }, kinds := [], alts := [], laidByText := true, laidKinds := [.handle, .data], laidTests := true, laidLooks := .later }
def CanonBuildsCardSaid : Prop := Claim7.holds Tryz.pinned (.plain (OpenSpec.ofChange canonBuildsSpec)) canonBuildsCard

/-- THE TIED CARD OF 'kenninglaw22.LimitsLeast'. -/
def limitsLeastCard : Claim7 := { stood := { row := limitsLeastRow, standIns := [], harness := (true, "25d19dcab116e15682ad809ae680c1f29a0969dd7137c806280c87f6ab23bbb3"), looks := true }, kinds := [], alts := [], laidByText := true, laidKinds := [.handle], laidTests := true, laidLooks := .later }
def LimitsLeastCardSaid : Prop := Claim7.holds Tryz.pinned (.plain (OpenSpec.ofChange limitsLeastSpec)) limitsLeastCard

/-- THE TIED CARD OF 'kenninglaw22.LimitsFit'. -/
def limitsFitCard : Claim7 := { stood := { row := limitsFitRow, standIns := [], harness := (true, "25d19dcab116e15682ad809ae680c1f29a0969dd7137c806280c87f6ab23bbb3"), looks := true }, kinds := [], alts := [], laidByText := true, laidKinds := [.handle], laidTests := true, laidLooks := .later }
def LimitsFitCardSaid : Prop := Claim7.holds Tryz.pinned (.plain (OpenSpec.ofChange limitsFitSpec)) limitsFitCard

/-- THE SECOND FORM's CARD OF 'kenninglaw13.CanonSegments'. -/
def canonSegmentsUptoCard : Claim7 := { stood := { row := canonSegmentsUptoRow, standIns := [], harness := (true, "25d19dcab116e15682ad809ae680c1f29a0969dd7137c806280c87f6ab23bbb3"), looks := true }, kinds := [], alts := [], laidByText := true, laidKinds := [.handle, .data], laidTests := true, laidLooks := .later }
def CanonSegmentsUptoCardSaid : Prop := Claim7.holds Tryz.pinned (.plain (OpenSpec.upto canonSegmentsSpec)) canonSegmentsUptoCard

/-- THE SECOND FORM's CARD OF 'kenninglaw22.LimitsCheck'. -/
def limitsCheckUptoCard : Claim7 := { stood := { row := limitsCheckUptoRow, standIns := [], harness := (true, "25d19dcab116e15682ad809ae680c1f29a0969dd7137c806280c87f6ab23bbb3"), looks := true }, kinds := [], alts := [], laidByText := true, laidKinds := [.handle], laidTests := true, laidLooks := .later }
def LimitsCheckUptoCardSaid : Prop := Claim7.holds Tryz.pinned (.plain (OpenSpec.upto limitsCheckSpec)) limitsCheckUptoCard

/-- THE SECOND FORM's CARD OF 'kenninglaw22.LimitsRelate'. -/
def limitsRelateUptoCard : Claim7 := { stood := { row := limitsRelateUptoRow, standIns := [], harness := (true, "25d19dcab116e15682ad809ae680c1f29a0969dd7137c806280c87f6ab23bbb3"), looks := true }, kinds := [], alts := [], laidByText := true, laidKinds := [.handle], laidTests := true, laidLooks := .later }
def LimitsRelateUptoCardSaid : Prop := Claim7.holds Tryz.pinned (.plain (OpenSpec.upto limitsRelateSpec)) limitsRelateUptoCard

/-- THE SECOND FORM's CARD OF 'kenninglaw13.CanonBuilds'. -/
def canonBuildsUptoCard : Claim7 := { stood := { row := canonBuildsUptoRow, standIns := [], harness := (true, "25d19dcab116e15682ad809ae680c1f29a0969dd7137c806280c87f6ab23bbb3"), looks := true }, kinds := [], alts := [], laidByText := true, laidKinds := [.handle, .data], laidTests := true, laidLooks := .later }
def CanonBuildsUptoCardSaid : Prop := Claim7.holds Tryz.pinned (.plain (OpenSpec.upto canonBuildsSpec)) canonBuildsUptoCard

/-- THE SECOND FORM's CARD OF 'kenninglaw22.LimitsLeast'. -/
def limitsLeastUptoCard : Claim7 := { stood := { row := limitsLeastUptoRow, standIns := [], harness := (true, "25d19dcab116e15682ad809ae680c1f29a0969dd7137c806280c87f6ab23bbb3"), looks := true }, kinds := [], alts := [], laidByText := true, laidKinds := [.handle], laidTests := true, laidLooks := .later }
def LimitsLeastUptoCardSaid : Prop := Claim7.holds Tryz.pinned (.plain (OpenSpec.upto limitsLeastSpec)) limitsLeastUptoCard

/-- THE SECOND FORM's CARD OF 'kenninglaw22.LimitsFit'. -/
def limitsFitUptoCard : Claim7 := { stood := { row := limitsFitUptoRow, standIns := [], harness := (true, "25d19dcab116e15682ad809ae680c1f29a0969dd7137c806280c87f6ab23bbb3"), looks := true }, kinds := [], alts := [], laidByText := true, laidKinds := [.handle], laidTests := true, laidLooks := .later }
def LimitsFitUptoCardSaid : Prop := Claim7.holds Tryz.pinned (.plain (OpenSpec.upto limitsFitSpec)) limitsFitUptoCard
end Rows
end Go.Proofs.YtkkdlgcfcbaibaaGreatDoor
