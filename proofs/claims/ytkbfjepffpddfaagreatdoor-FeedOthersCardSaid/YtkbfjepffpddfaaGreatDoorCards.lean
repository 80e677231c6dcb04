/-
  DERIVED. GIVEN WITH THE SEED: THE CARDS: each row of YtkbfjepffpddfaaGreatDoorRows.lean that lists a variable, with what it lists TIED to the program's text (the seventh form; the later family's looks); each row that meets fmt, with fmt's text TOLD by the authors' own Lean function (tested against real Go, not proved from fmt's source: count such statements apart). THE CARD IS WHAT COUNTS. Prove the row's statement (the work); the ties are given (YtkbfjepffpddfaaGreatDoorTie.lean); close each card by the builder's one call (the guide's Derived/Test/ToyasCard.lean, 'card_holds'). Laid BY PROGRAM, IN A SANDBOX (cutbox-door.mjs). By AI agents, Wed Nov 11 2026. No macro, syntax, notation, axiom, sorry.
-/
import Derived.Test.YtkbfjepffpddfaaGreatDoorRows
import GoSem.ClaimSeven
namespace Go.Proofs.YtkbfjepffpddfaaGreatDoor
namespace Rows

/-- THE TIED CARD OF 'mailcoachlaw09.FeedKinds'. -/
def feedKindsCard : Claim7 := { stood := { row := feedKindsRow, standIns := [], harness := (true, "b1df91f58ad98c9f12fd3e5e2837632f95de86d186ef17aa69457650c485151d"), looks := true }, kinds := [], alts := [], laidByText := true, laidKinds := [.data, .data, .data, .data, .sentinel, .sentinel, .pinned], laidTests := true, laidLooks := .later }
def FeedKindsCardSaid : Prop := Claim7.holds Tryz.pinned (.plain (OpenSpec.ofChange feedKindsSpec)) feedKindsCard

/-- THE TIED CARD OF 'mailcoachlaw09.FeedMany'. -/
def feedManyCard : Claim7 := { stood := { row := feedManyRow, standIns := [], harness := (true, "b1df91f58ad98c9f12fd3e5e2837632f95de86d186ef17aa69457650c485151d"), looks := true }, kinds := [], alts := [], laidByText := true, laidKinds := [.data, .data, .data, .data, .sentinel, .sentinel, .pinned], laidTests := true, laidLooks := .later }
def FeedManyCardSaid : Prop := Claim7.holds Tryz.pinned (.plain (OpenSpec.ofChange feedManySpec)) feedManyCard

/-- THE TIED CARD OF 'mailcoachlaw09.FeedOthers'. -/
def feedOthersCard : Claim7 := { stood := { row := feedOthersRow, standIns := [], harness := (true, "b1df91f58ad98c9f12fd3e5e2837632f95de86d186ef17aa69457650c485151d"), looks := true }, kinds := [], alts := [], laidByText := true, laidKinds := [.data, .data, .data, .data, .sentinel, .sentinel, .pinned], laidTests := true, laidLooks := .later }
def FeedOthersCardSaid : Prop := Claim7.holds Tryz.pinned (.plain (OpenSpec.ofChange feedOthersSpec)) feedOthersCard

/-- THE TIED CARD OF 'mailcoachlaw09.FeedTrims'. -/
def feedTrimsCard : Claim7 := { stood := { row := feedTrimsRow, standIns := [], harness := (true, "b1df91f58ad98c9f12fd3e5e2837632f95de86d186ef17aa69457650c485151d"), looks := true }, kinds := [], alts := [], laidByText := true, laidKinds := [.data, .data, .data, .data, .sentinel, .sentinel, .pinned], laidTests := true, laidLooks := .later }
def FeedTrimsCardSaid : Prop := Claim7.holds Tryz.pinned (.plain (OpenSpec.ofChange feedTrimsSpec)) feedTrimsCard

/-- THE SECOND FORM's CARD OF 'mailcoachlaw09.FeedKinds'. -/
def feedKindsUptoCard : Claim7 := { stood := { row := feedKindsUptoRow, standIns := [], harness := (true, "b1df91f58ad98c9f12fd3e5e2837632f95de86d186ef17aa69457650c485151d"), looks := true }, kinds := [], alts := [], laidByText := true, laidKinds := [.data, .data, .data, .data, .sentinel, .sentinel, .pinned], laidTests := true, laidLooks := .later }
def FeedKindsUptoCardSaid : Prop := Claim7.holds Tryz.pinned (.plain (OpenSpec.upto feedKindsSpec)) feedKindsUptoCard

/-- THE SECOND FORM's CARD OF 'mailcoachlaw09.FeedMany'. -/
def feedManyUptoCard : Claim7 := { stood := { row := feedManyUptoRow, standIns := [], harness := (true, "b1df91f58ad98c9f12fd3e5e2837632f95de86d186ef17aa69457650c485151d"), looks := true }, kinds := [], alts := [], laidByText := true, laidKinds := [.data, .data, .data, .data, .sentinel, .sentinel, .pinned], laidTests := true, laidLooks := .later }
def FeedManyUptoCardSaid : Prop := Claim7.holds Tryz.pinned (.plain (OpenSpec.upto feedManySpec)) feedManyUptoCard

/-- THE SECOND FORM's CARD OF 'mailcoachlaw09.FeedOthers'. -/
def feedOthersUptoCard : Claim7 := { stood := { row := feedOthersUptoRow, standIns := [], harness := (true, "b1df91f58ad98c9f12fd3e5e2837632f95de86d186ef17aa69457650c485151d"), looks := true }, kinds := [], alts := [], laidByText := true, laidKinds := [.data, .data, .data, .data, .sentinel, .sentinel, .pinned], laidTests := true, laidLooks := .later }
def FeedOthersUptoCardSaid : Prop := Claim7.holds Tryz.pinned (.plain (OpenSpec.upto feedOthersSpec)) feedOthersUptoCard

/-- THE SECOND FORM's CARD OF 'mailcoachlaw09.FeedTrims'. -/
def feedTrimsUptoCard : Claim7 := { stood := { row := feedTrimsUptoRow, standIns := [], harness := (true, "b1df91f58ad98c9f12fd3e5e2837632f95de86d186ef17aa69457650c485151d"), looks := true }, kinds := [], alts := [], laidByText := true, laidKinds := [.data, .data, .data, .data, .sentinel, .sentinel, .pinned], laidTests := true, laidLooks := .later }
def FeedTrimsUptoCardSaid : Prop := Claim7.holds Tryz.pinned (.plain (OpenSpec.upto feedTrimsSpec)) feedTrimsUptoCard
end Rows
end Go.Proofs.YtkbfjepffpddfaaGreatDoor
