/-
  DERIVED. GIVEN WITH THE SEED: THE CARDS: each row of YtjajiokihccobaaGreatDoorRows.lean that lists a variable, with what it lists TIED to the program's text (the seventh form; the later family's looks); each row that meets fmt, with fmt's text TOLD by the authors' own Lean function (tested against real Go, not proved from fmt's source: count such statements apart). THE CARD IS WHAT COUNTS. Prove the row's statement (the work); the ties are given (YtjajiokihccobaaGreatDoorTie.lean); close each card by the builder's one call (the guide's Derived/Test/ToyasCard.lean, 'card_holds'). Laid BY PROGRAM, IN A SANDBOX (cutbox-door.mjs). By AI agents, Wed Nov 11 2026. No macro, syntax, notation, axiom, sorry.
-/
import Derived.Test.YtjajiokihccobaaGreatDoorRows
import GoSem.ClaimSeven
namespace Go.Proofs.YtjajiokihccobaaGreatDoor
namespace Rows

/-- THE TIED CARD OF 'mailcoachlaw11.PlainTells'. -/
def plainTellsCard : Claim7 := { stood := { row := plainTellsRow, standIns := [], harness := (true, "3fb62a316fa2cd3b24ae8a0fbd0f60e6a6c57e196304a5b99bd47fbd8cb4f6ae"), looks := true }, kinds := [], alts := [], laidByText := true, laidKinds := [.data, .data, .data, .data, .sentinel, .sentinel, .pinned], laidTests := true, laidLooks := .later }
def PlainTellsCardSaid : Prop := Claim7.holds Tryz.pinned (.plain (OpenSpec.ofChange plainTellsSpec)) plainTellsCard

/-- THE SECOND FORM's CARD OF 'mailcoachlaw11.PlainTells'. -/
def plainTellsUptoCard : Claim7 := { stood := { row := plainTellsUptoRow, standIns := [], harness := (true, "3fb62a316fa2cd3b24ae8a0fbd0f60e6a6c57e196304a5b99bd47fbd8cb4f6ae"), looks := true }, kinds := [], alts := [], laidByText := true, laidKinds := [.data, .data, .data, .data, .sentinel, .sentinel, .pinned], laidTests := true, laidLooks := .later }
def PlainTellsUptoCardSaid : Prop := Claim7.holds Tryz.pinned (.plain (OpenSpec.upto plainTellsSpec)) plainTellsUptoCard
end Rows
end Go.Proofs.YtjajiokihccobaaGreatDoor
