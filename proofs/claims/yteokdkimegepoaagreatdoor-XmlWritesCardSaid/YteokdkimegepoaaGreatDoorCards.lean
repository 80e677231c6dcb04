/-
  DERIVED. GIVEN WITH THE SEED: THE CARDS: each row of YteokdkimegepoaaGreatDoorRows.lean that lists a variable, with what it lists TIED to the program's text (the seventh form; the later family's looks); each row that meets fmt, with fmt's text TOLD by the authors' own Lean function (tested against real Go, not proved from fmt's source: count such statements apart). THE CARD IS WHAT COUNTS. Prove the row's statement (the work); the ties are given (YteokdkimegepoaaGreatDoorTie.lean); close each card by the builder's one call (the guide's Derived/Test/ToyasCard.lean, 'card_holds'). Laid BY PROGRAM, IN A SANDBOX (cutbox-door.mjs). By AI agents, Wed Nov 11 2026. No macro, syntax, notation, axiom, sorry.
-/
import Derived.Test.YteokdkimegepoaaGreatDoorRows
import GoSem.ClaimSeven
namespace Go.Proofs.YteokdkimegepoaaGreatDoor
namespace Rows

/-- THE TIED CARD OF 'mailcoachlaw08.XmlTokens'. -/
def xmlTokensCard : Claim7 := { stood := { row := xmlTokensRow, standIns := [], harness := (true, "497d33d9d3c1b7ccad689684dba5f50efa6f58f2b680c6ec720330d92b7b9911"), looks := true }, kinds := [], alts := [], laidByText := true, laidKinds := [.data, .data, .data, .data, .sentinel, .sentinel, .pinned], laidTests := true, laidLooks := .later }
def XmlTokensCardSaid : Prop := Claim7.holds Tryz.pinned (.plain (OpenSpec.ofChange xmlTokensSpec)) xmlTokensCard

/-- THE TIED CARD OF 'mailcoachlaw08.XmlNested'. -/
def xmlNestedCard : Claim7 := { stood := { row := xmlNestedRow, standIns := [], harness := (true, "497d33d9d3c1b7ccad689684dba5f50efa6f58f2b680c6ec720330d92b7b9911"), looks := true }, kinds := [], alts := [], laidByText := true, laidKinds := [.data, .data, .data, .data, .sentinel, .sentinel, .pinned], laidTests := true, laidLooks := .later }
def XmlNestedCardSaid : Prop := Claim7.holds Tryz.pinned (.plain (OpenSpec.ofChange xmlNestedSpec)) xmlNestedCard

/-- THE TIED CARD OF 'mailcoachlaw08.XmlDeep'. -/
def xmlDeepCard : Claim7 := { stood := { row := xmlDeepRow, standIns := [], harness := (true, "497d33d9d3c1b7ccad689684dba5f50efa6f58f2b680c6ec720330d92b7b9911"), looks := true }, kinds := [], alts := [], laidByText := true, laidKinds := [.data, .data, .data, .data, .sentinel, .sentinel, .pinned], laidTests := true, laidLooks := .later }
def XmlDeepCardSaid : Prop := Claim7.holds Tryz.pinned (.plain (OpenSpec.ofChange xmlDeepSpec)) xmlDeepCard

/-- THE TIED CARD OF 'mailcoachlaw08.XmlAround'. -/
def xmlAroundCard : Claim7 := { stood := { row := xmlAroundRow, standIns := [], harness := (true, "497d33d9d3c1b7ccad689684dba5f50efa6f58f2b680c6ec720330d92b7b9911"), looks := true }, kinds := [], alts := [], laidByText := true, laidKinds := [.data, .data, .data, .data, .sentinel, .sentinel, .pinned], laidTests := true, laidLooks := .later }
def XmlAroundCardSaid : Prop := Claim7.holds Tryz.pinned (.plain (OpenSpec.ofChange xmlAroundSpec)) xmlAroundCard

/-- THE TIED CARD OF 'mailcoachlaw08.XmlWrites'. -/
def xmlWritesCard : Claim7 := { stood := { row := xmlWritesRow, standIns := [], harness := (true, "497d33d9d3c1b7ccad689684dba5f50efa6f58f2b680c6ec720330d92b7b9911"), looks := true }, kinds := [], alts := [], laidByText := true, laidKinds := [.data, .data, .data, .data, .sentinel, .sentinel, .pinned], laidTests := true, laidLooks := .later }
def XmlWritesCardSaid : Prop := Claim7.holds Tryz.pinned (.plain (OpenSpec.ofChange xmlWritesSpec)) xmlWritesCard

/-- THE TIED CARD OF 'mailcoachlaw08.XmlBack'. -/
def xmlBackCard : Claim7 := { stood := { row := xmlBackRow, standIns := [], harness := (true, "497d33d9d3c1b7ccad689684dba5f50efa6f58f2b680c6ec720330d92b7b9911"), looks := true }, kinds := [], alts := [], laidByText := true, laidKinds := [.data, .data, .data, .data, .sentinel, .sentinel, .pinned], laidTests := true, laidLooks := .later }
def XmlBackCardSaid : Prop := Claim7.holds Tryz.pinned (.plain (OpenSpec.ofChange xmlBackSpec)) xmlBackCard

/-- THE SECOND FORM's CARD OF 'mailcoachlaw08.XmlTokens'. -/
def xmlTokensUptoCard : Claim7 := { stood := { row := xmlTokensUptoRow, standIns := [], harness := (true, "497d33d9d3c1b7ccad689684dba5f50efa6f58f2b680c6ec720330d92b7b9911"), looks := true }, kinds := [], alts := [], laidByText := true, laidKinds := [.data, .data, .data, .data, .sentinel, .sentinel, .pinned], laidTests := true, laidLooks := .later }
def XmlTokensUptoCardSaid : Prop := Claim7.holds Tryz.pinned (.plain (OpenSpec.upto xmlTokensSpec)) xmlTokensUptoCard

/-- THE SECOND FORM's CARD OF 'mailcoachlaw08.XmlNested'. -/
def xmlNestedUptoCard : Claim7 := { stood := { row := xmlNestedUptoRow, standIns := [], harness := (true, "497d33d9d3c1b7ccad689684dba5f50efa6f58f2b680c6ec720330d92b7b9911"), looks := true }, kinds := [], alts := [], laidByText := true, laidKinds := [.data, .data, .data, .data, .sentinel, .sentinel, .pinned], laidTests := true, laidLooks := .later }
def XmlNestedUptoCardSaid : Prop := Claim7.holds Tryz.pinned (.plain (OpenSpec.upto xmlNestedSpec)) xmlNestedUptoCard

/-- THE SECOND FORM's CARD OF 'mailcoachlaw08.XmlDeep'. -/
def xmlDeepUptoCard : Claim7 := { stood := { row := xmlDeepUptoRow, standIns := [], harness := (true, "497d33d9d3c1b7ccad689684dba5f50efa6f58f2b680c6ec720330d92b7b9911"), looks := true }, kinds := [], alts := [], laidByText := true, laidKinds := [.data, .data, .data, .data, .sentinel, .sentinel, .pinned], laidTests := true, laidLooks := .later }
def XmlDeepUptoCardSaid : Prop := Claim7.holds Tryz.pinned (.plain (OpenSpec.upto xmlDeepSpec)) xmlDeepUptoCard

/-- THE SECOND FORM's CARD OF 'mailcoachlaw08.XmlAround'. -/
def xmlAroundUptoCard : Claim7 := { stood := { row := xmlAroundUptoRow, standIns := [], harness := (true, "497d33d9d3c1b7ccad689684dba5f50efa6f58f2b680c6ec720330d92b7b9911"), looks := true }, kinds := [], alts := [], laidByText := true, laidKinds := [.data, .data, .data, .data, .sentinel, .sentinel, .pinned], laidTests := true, laidLooks := .later }
def XmlAroundUptoCardSaid : Prop := Claim7.holds Tryz.pinned (.plain (OpenSpec.upto xmlAroundSpec)) xmlAroundUptoCard

/-- THE SECOND FORM's CARD OF 'mailcoachlaw08.XmlWrites'. -/
def xmlWritesUptoCard : Claim7 := { stood := { row := xmlWritesUptoRow, standIns := [], harness := (true, "497d33d9d3c1b7ccad689684dba5f50efa6f58f2b680c6ec720330d92b7b9911"), looks := true }, kinds := [], alts := [], laidByText := true, laidKinds := [.data, .data, .data, .data, .sentinel, .sentinel, .pinned], laidTests := true, laidLooks := .later }
def XmlWritesUptoCardSaid : Prop := Claim7.holds Tryz.pinned (.plain (OpenSpec.upto xmlWritesSpec)) xmlWritesUptoCard

/-- THE SECOND FORM's CARD OF 'mailcoachlaw08.XmlBack'. -/
def xmlBackUptoCard : Claim7 := { stood := { row := xmlBackUptoRow, standIns := [], harness := (true, "497d33d9d3c1b7ccad689684dba5f50efa6f58f2b680c6ec720330d92b7b9911"), looks := true }, kinds := [], alts := [], laidByText := true, laidKinds := [.data, .data, .data, .data, .sentinel, .sentinel, .pinned], laidTests := true, laidLooks := .later }
def XmlBackUptoCardSaid : Prop := Claim7.holds Tryz.pinned (.plain (OpenSpec.upto xmlBackSpec)) xmlBackUptoCard
end Rows
end Go.Proofs.YteokdkimegepoaaGreatDoor
