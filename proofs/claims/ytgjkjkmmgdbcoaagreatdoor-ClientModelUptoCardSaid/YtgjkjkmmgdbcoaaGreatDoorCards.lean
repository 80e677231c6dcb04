/-
  DERIVED. GIVEN WITH THE SEED: THE CARDS: each row of YtgjkjkmmgdbcoaaGreatDoorRows.lean that lists a variable, with what it lists TIED to the program's text (the seventh form; the later family's looks); each row that meets fmt, with fmt's text TOLD by the authors' own Lean function (tested against real Go, not proved from fmt's source: count such statements apart). THE CARD IS WHAT COUNTS. Prove the row's statement (the work); the ties are given (YtgjkjkmmgdbcoaaGreatDoorTie.lean); close each card by the builder's one call (the guide's Derived/Test/ToyasCard.lean, 'card_holds'). Laid BY PROGRAM, IN A SANDBOX (cutbox-door.mjs). By AI agents, Wed Nov 11 2026. No macro, syntax, notation, axiom, sorry.
-/
import Derived.Test.YtgjkjkmmgdbcoaaGreatDoorRows
import GoSem.ClaimSeven
namespace Go.Proofs.YtgjkjkmmgdbcoaaGreatDoor
namespace Rows

/-- THE TIED CARD OF 'mailcoachlaw19.ClientRuns'. -/
def clientRunsCard : Claim7 := { stood := { row := clientRunsRow, standIns := [], harness := (true, "200425297b6fefbf121aecdde5f7e44e7ea82aafe0221b1ae02ba29ca9635da4"), looks := true }, kinds := [], alts := [], laidByText := true, laidKinds := [.data, .data, .data, .data, .sentinel, .sentinel, .pinned], laidTests := true, laidLooks := .later }
def ClientRunsCardSaid : Prop := Claim7.holds Tryz.pinned (.plain (OpenSpec.ofChange clientRunsSpec)) clientRunsCard

/-- THE TIED CARD OF 'mailcoachlaw19.ClientOnce'. -/
def clientOnceCard : Claim7 := { stood := { row := clientOnceRow, standIns := [], harness := (true, "200425297b6fefbf121aecdde5f7e44e7ea82aafe0221b1ae02ba29ca9635da4"), looks := true }, kinds := [], alts := [], laidByText := true, laidKinds := [.data, .data, .data, .data, .sentinel, .sentinel, .pinned], laidTests := true, laidLooks := .later }
def ClientOnceCardSaid : Prop := Claim7.holds Tryz.pinned (.plain (OpenSpec.ofChange clientOnceSpec)) clientOnceCard

/-- THE TIED CARD OF 'mailcoachlaw19.ClientModel'. -/
def clientModelCard : Claim7 := { stood := { row := clientModelRow, standIns := [], harness := (true, "200425297b6fefbf121aecdde5f7e44e7ea82aafe0221b1ae02ba29ca9635da4"), looks := true }, kinds := [], alts := [], laidByText := true, laidKinds := [.data, .data, .data, .data, .sentinel, .sentinel, .pinned], laidTests := true, laidLooks := .later }
def ClientModelCardSaid : Prop := Claim7.holds Tryz.pinned (.plain (OpenSpec.ofChange clientModelSpec)) clientModelCard

/-- THE TIED CARD OF 'mailcoachlaw19.ClientCodes'. -/
def clientCodesCard : Claim7 := { stood := { row := clientCodesRow, standIns := [], harness := (true, "200425297b6fefbf121aecdde5f7e44e7ea82aafe0221b1ae02ba29ca9635da4"), looks := true }, kinds := [], alts := [], laidByText := true, laidKinds := [.data, .data, .data, .data, .sentinel, .sentinel, .pinned], laidTests := true, laidLooks := .later }
def ClientCodesCardSaid : Prop := Claim7.holds Tryz.pinned (.plain (OpenSpec.ofChange clientCodesSpec)) clientCodesCard

/-- THE TIED CARD OF 'mailcoachlaw19.ClientDone'. -/
def clientDoneCard : Claim7 := { stood := { row := clientDoneRow, standIns := [], harness := (true, "200425297b6fefbf121aecdde5f7e44e7ea82aafe0221b1ae02ba29ca9635da4"), looks := true }, kinds := [], alts := [], laidByText := true, laidKinds := [.data, .data, .data, .data, .sentinel, .sentinel, .pinned], laidTests := true, laidLooks := .later }
def ClientDoneCardSaid : Prop := Claim7.holds Tryz.pinned (.plain (OpenSpec.ofChange clientDoneSpec)) clientDoneCard

/-- THE TIED CARD OF 'mailcoachlaw19.ClientSteps'. -/
def clientStepsCard : Claim7 := { stood := { row := clientStepsRow, standIns := [], harness := (true, "200425297b6fefbf121aecdde5f7e44e7ea82aafe0221b1ae02ba29ca9635da4"), looks := true }, kinds := [], alts := [], laidByText := true, laidKinds := [.data, .data, .data, .data, .sentinel, .sentinel, .pinned], laidTests := true, laidLooks := .later }
def ClientStepsCardSaid : Prop := Claim7.holds Tryz.pinned (.plain (OpenSpec.ofChange clientStepsSpec)) clientStepsCard

/-- THE TIED CARD OF 'mailcoachlaw19.ClientParts'. -/
def clientPartsCard : Claim7 := { stood := { row := clientPartsRow, standIns := [], harness := (true, "200425297b6fefbf121aecdde5f7e44e7ea82aafe0221b1ae02ba29ca9635da4"), looks := true }, kinds := [], alts := [], laidByText := true, laidKinds := [.data, .data, .data, .data, .sentinel, .sentinel, .pinned], laidTests := true, laidLooks := .later }
def ClientPartsCardSaid : Prop := Claim7.holds Tryz.pinned (.plain (OpenSpec.ofChange clientPartsSpec)) clientPartsCard

/-- THE SECOND FORM's CARD OF 'mailcoachlaw19.ClientRuns'. -/
def clientRunsUptoCard : Claim7 := { stood := { row := clientRunsUptoRow, standIns := [], harness := (true, "200425297b6fefbf121aecdde5f7e44e7ea82aafe0221b1ae02ba29ca9635da4"), looks := true }, kinds := [], alts := [], laidByText := true, laidKinds := [.data, .data, .data, .data, .sentinel, .sentinel, .pinned], laidTests := true, laidLooks := .later }
def ClientRunsUptoCardSaid : Prop := Claim7.holds Tryz.pinned (.plain (OpenSpec.upto clientRunsSpec)) clientRunsUptoCard

/-- THE SECOND FORM's CARD OF 'mailcoachlaw19.ClientOnce'. -/
def clientOnceUptoCard : Claim7 := { stood := { row := clientOnceUptoRow, standIns := [], harness := (true, "200425297b6fefbf121aecdde5f7e44e7ea82aafe0221b1ae02ba29ca9635da4"), looks := true }, kinds := [], alts := [], laidByText := true, laidKinds := [.data, .data, .data, .data, .sentinel, .sentinel, .pinned], laidTests := true, laidLooks := .later }
def ClientOnceUptoCardSaid : Prop := Claim7.holds Tryz.pinned (.plain (OpenSpec.upto clientOnceSpec)) clientOnceUptoCard

/-- THE SECOND FORM's CARD OF 'mailcoachlaw19.ClientModel'. -/
def clientModelUptoCard : Claim7 := { stood := { row := clientModelUptoRow, standIns := [], harness := (true, "200425297b6fefbf121aecdde5f7e44e7ea82aafe0221b1ae02ba29ca9635da4"), looks := true }, kinds := [], alts := [], laidByText := true, laidKinds := [.data, .data, .data, .data, .sentinel, .sentinel, .pinned], laidTests := true, laidLooks := .later }
def ClientModelUptoCardSaid : Prop := Claim7.holds Tryz.pinned (.plain (OpenSpec.upto clientModelSpec)) clientModelUptoCard

/-- THE SECOND FORM's CARD OF 'mailcoachlaw19.ClientCodes'. -/
def clientCodesUptoCard : Claim7 := { stood := { row := clientCodesUptoRow, standIns := [], harness := (true, "200425297b6fefbf121aecdde5f7e44e7ea82aafe0221b1ae02ba29ca9635da4"), looks := true }, kinds := [], alts := [], laidByText := true, laidKinds := [.data, .data, .data, .data, .sentinel, .sentinel, .pinned], laidTests := true, laidLooks := .later }
def ClientCodesUptoCardSaid : Prop := Claim7.holds Tryz.pinned (.plain (OpenSpec.upto clientCodesSpec)) clientCodesUptoCard

/-- THE SECOND FORM's CARD OF 'mailcoachlaw19.ClientDone'. -/
def clientDoneUptoCard : Claim7 := { stood := { row := clientDoneUptoRow, standIns := [], harness := (true, "200425297b6fefbf121aecdde5f7e44e7ea82aafe0221b1ae02ba29ca9635da4"), looks := true }, kinds := [], alts := [], laidByText := true, laidKinds := [.data, .data, .data, .data, .sentinel, .sentinel, .pinned], laidTests := true, laidLooks := .later }
def ClientDoneUptoCardSaid : Prop := Claim7.holds Tryz.pinned (.plain (OpenSpec.upto clientDoneSpec)) clientDoneUptoCard

/-- THE SECOND FORM's CARD OF 'mailcoachlaw19.ClientSteps'. -/
def clientStepsUptoCard : Claim7 := { stood := { row := clientStepsUptoRow, standIns := [], harness := (true, "200425297b6fefbf121aecdde5f7e44e7ea82aafe0221b1ae02ba29ca9635da4"), looks := true }, kinds := [], alts := [], laidByText := true, laidKinds := [.data, .data, .data, .data, .sentinel, .sentinel, .pinned], laidTests := true, laidLooks := .later }
def ClientStepsUptoCardSaid : Prop := Claim7.holds Tryz.pinned (.plain (OpenSpec.upto clientStepsSpec)) clientStepsUptoCard

/-- THE SECOND FORM's CARD OF 'mailcoachlaw19.ClientParts'. -/
def clientPartsUptoCard : Claim7 := { stood := { row := clientPartsUptoRow, standIns := [], harness := (true, "200425297b6fefbf121aecdde5f7e44e7ea82aafe0221b1ae02ba29ca9635da4"), looks := true }, kinds := [], alts := [], laidByText := true, laidKinds := [.data, .data, .data, .data, .sentinel, .sentinel, .pinned], laidTests := true, laidLooks := .later }
def ClientPartsUptoCardSaid : Prop := Claim7.holds Tryz.pinned (.plain (OpenSpec.upto clientPartsSpec)) clientPartsUptoCard
end Rows
end Go.Proofs.YtgjkjkmmgdbcoaaGreatDoor
