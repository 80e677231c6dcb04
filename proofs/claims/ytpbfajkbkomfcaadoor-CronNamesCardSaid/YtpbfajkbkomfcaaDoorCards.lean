/-
  DERIVED. GIVEN WITH THE SEED: THE CARDS: each row of YtpbfajkbkomfcaaDoorRows.lean that lists a variable, with what it lists TIED to the program's text (the seventh form; the later family's looks); each row that meets fmt, with fmt's text TOLD by the authors' own Lean function (tested against real Go, not proved from fmt's source: count such statements apart). THE CARD IS WHAT COUNTS. Prove the row's statement (the work); the ties are given (YtpbfajkbkomfcaaDoorTie.lean); close each card by the builder's one call (the guide's Derived/Test/ToyasCard.lean, 'card_holds'). Laid BY PROGRAM, IN A SANDBOX (cutbox-door.mjs). By AI agents, Wed Nov 11 2026. No macro, syntax, notation, axiom, sorry.
-/
import Derived.Test.YtpbfajkbkomfcaaDoorRows
import GoSem.ClaimSeven
namespace Go.Proofs.YtpbfajkbkomfcaaDoor
namespace Rows

/-- THE TIED CARD OF 'mailcoachlaw05.CronNames'. -/
def cronNamesCard : Claim7 := { stood := { row := cronNamesRow, standIns := [], harness := (true, "2f4caa4642b4895e9010c230d782d1ee3c73b44f20d57bd67f1a8e8d37b33209"), looks := true }, kinds := [], alts := [], laidByText := true, laidKinds := [.data, .data, .data, .data, .sentinel, .sentinel, .pinned], laidTests := true, laidLooks := .later }
def CronNamesCardSaid : Prop := Claim7.holds Tryd.pinned (.plain (OpenSpec.ofChange cronNamesSpec)) cronNamesCard

/-- THE SECOND FORM's CARD OF 'mailcoachlaw05.CronNames'. -/
def cronNamesUptoCard : Claim7 := { stood := { row := cronNamesUptoRow, standIns := [], harness := (true, "2f4caa4642b4895e9010c230d782d1ee3c73b44f20d57bd67f1a8e8d37b33209"), looks := true }, kinds := [], alts := [], laidByText := true, laidKinds := [.data, .data, .data, .data, .sentinel, .sentinel, .pinned], laidTests := true, laidLooks := .later }
def CronNamesUptoCardSaid : Prop := Claim7.holds Tryd.pinned (.plain (OpenSpec.upto cronNamesSpec)) cronNamesUptoCard
end Rows
end Go.Proofs.YtpbfajkbkomfcaaDoor
