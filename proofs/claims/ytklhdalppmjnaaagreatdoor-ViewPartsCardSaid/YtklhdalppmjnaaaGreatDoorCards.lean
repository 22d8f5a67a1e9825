/-
  DERIVED. GIVEN WITH THE SEED: THE CARDS: each row of YtklhdalppmjnaaaGreatDoorRows.lean that lists a variable, with what it lists TIED to the program's text (the seventh form; the later family's looks); each row that meets fmt, with fmt's text TOLD by the authors' own Lean function (tested against real Go, not proved from fmt's source: count such statements apart). THE CARD IS WHAT COUNTS. Prove the row's statement (the work); the ties are given (YtklhdalppmjnaaaGreatDoorTie.lean); close each card by the builder's one call (the guide's Derived/Test/ToyasCard.lean, 'card_holds'). Laid BY PROGRAM, IN A SANDBOX (cutbox-door.mjs). By AI agents, Wed Nov 11 2026. No macro, syntax, notation, axiom, sorry.
-/
import Derived.Test.YtklhdalppmjnaaaGreatDoorRows
import GoSem.ClaimSeven
namespace Go.Proofs.YtklhdalppmjnaaaGreatDoor
namespace Rows

/-- THE TIED CARD OF 'rhizomelaw18.ViewParts'. -/
def viewPartsCard : Claim7 := { stood := { row := viewPartsRow, standIns := [], harness := (true, "67f1b5a45b8cb2554793b894757c6b013340c4294ac2e23ef17c7c9c87daf13c"), looks := true }, kinds := [], alts := [], laidByText := true, laidKinds := [.data, .pinned], laidTests := true, laidLooks := .later }
def ViewPartsCardSaid : Prop := Claim7.holds Tryz.pinned (.plain (OpenSpec.ofChange viewPartsSpec)) viewPartsCard

/-- THE TIED CARD OF 'rhizomelaw18.ViewSteps'. -/
def viewStepsCard : Claim7 := { stood := { row := viewStepsRow, standIns := [], harness := (true, "67f1b5a45b8cb2554793b894757c6b013340c4294ac2e23ef17c7c9c87daf13c"), looks := true }, kinds := [], alts := [], laidByText := true, laidKinds := [.data, .pinned], laidTests := true, laidLooks := .later }
def ViewStepsCardSaid : Prop := Claim7.holds Tryz.pinned (.plain (OpenSpec.ofChange viewStepsSpec)) viewStepsCard

/-- THE TIED CARD OF 'rhizomelaw18.ViewBack'. -/
def viewBackCard : Claim7 := { stood := { row := viewBackRow, standIns := [], harness := (true, "67f1b5a45b8cb2554793b894757c6b013340c4294ac2e23ef17c7c9c87daf13c"), looks := true }, kinds := [], alts := [], laidByText := true, laidKinds := [.data, .pinned], laidTests := true, laidLooks := .later }
def ViewBackCardSaid : Prop := Claim7.holds Tryz.pinned (.plain (OpenSpec.ofChange viewBackSpec)) viewBackCard

/-- THE TIED CARD OF 'rhizomelaw18.ViewPlays'. -/
def viewPlaysCard : Claim7 := { stood := { row := viewPlaysRow, standIns := [], harness := (true, "67f1b5a45b8cb2554793b894757c6b013340c4294ac2e23ef17c7c9c87daf13c"), looks := true }, kinds := [], alts := [], laidByText := true, laidKinds := [.data, .pinned], laidTests := true, laidLooks := .later }
def ViewPlaysCardSaid : Prop := Claim7.holds Tryz.pinned (.plain (OpenSpec.ofChange viewPlaysSpec)) viewPlaysCard

/-- THE TIED CARD OF 'rhizomelaw18.ViewDeltas'. -/
def viewDeltasCard : Claim7 := { stood := { row := viewDeltasRow, standIns := [], harness := (true, "67f1b5a45b8cb2554793b894757c6b013340c4294ac2e23ef17c7c9c87daf13c"), looks := true }, kinds := [], alts := [], laidByText := true, laidKinds := [.data, .pinned], laidTests := true, laidLooks := .later }
def ViewDeltasCardSaid : Prop := Claim7.holds Tryz.pinned (.plain (OpenSpec.ofChange viewDeltasSpec)) viewDeltasCard

/-- THE SECOND FORM's CARD OF 'rhizomelaw18.ViewParts'. -/
def viewPartsUptoCard : Claim7 := { stood := { row := viewPartsUptoRow, standIns := [], harness := (true, "67f1b5a45b8cb2554793b894757c6b013340c4294ac2e23ef17c7c9c87daf13c"), looks := true }, kinds := [], alts := [], laidByText := true, laidKinds := [.data, .pinned], laidTests := true, laidLooks := .later }
def ViewPartsUptoCardSaid : Prop := Claim7.holds Tryz.pinned (.plain (OpenSpec.upto viewPartsSpec)) viewPartsUptoCard

/-- THE SECOND FORM's CARD OF 'rhizomelaw18.ViewSteps'. -/
def viewStepsUptoCard : Claim7 := { stood := { row := viewStepsUptoRow, standIns := [], harness := (true, "67f1b5a45b8cb2554793b894757c6b013340c4294ac2e23ef17c7c9c87daf13c"), looks := true }, kinds := [], alts := [], laidByText := true, laidKinds := [.data, .pinned], laidTests := true, laidLooks := .later }
def ViewStepsUptoCardSaid : Prop := Claim7.holds Tryz.pinned (.plain (OpenSpec.upto viewStepsSpec)) viewStepsUptoCard

/-- THE SECOND FORM's CARD OF 'rhizomelaw18.ViewBack'. -/
def viewBackUptoCard : Claim7 := { stood := { row := viewBackUptoRow, standIns := [], harness := (true, "67f1b5a45b8cb2554793b894757c6b013340c4294ac2e23ef17c7c9c87daf13c"), looks := true }, kinds := [], alts := [], laidByText := true, laidKinds := [.data, .pinned], laidTests := true, laidLooks := .later }
def ViewBackUptoCardSaid : Prop := Claim7.holds Tryz.pinned (.plain (OpenSpec.upto viewBackSpec)) viewBackUptoCard

/-- THE SECOND FORM's CARD OF 'rhizomelaw18.ViewPlays'. -/
def viewPlaysUptoCard : Claim7 := { stood := { row := viewPlaysUptoRow, standIns := [], harness := (true, "67f1b5a45b8cb2554793b894757c6b013340c4294ac2e23ef17c7c9c87daf13c"), looks := true }, kinds := [], alts := [], laidByText := true, laidKinds := [.data, .pinned], laidTests := true, laidLooks := .later }
def ViewPlaysUptoCardSaid : Prop := Claim7.holds Tryz.pinned (.plain (OpenSpec.upto viewPlaysSpec)) viewPlaysUptoCard

/-- THE SECOND FORM's CARD OF 'rhizomelaw18.ViewDeltas'. -/
def viewDeltasUptoCard : Claim7 := { stood := { row := viewDeltasUptoRow, standIns := [], harness := (true, "67f1b5a45b8cb2554793b894757c6b013340c4294ac2e23ef17c7c9c87daf13c"), looks := true }, kinds := [], alts := [], laidByText := true, laidKinds := [.data, .pinned], laidTests := true, laidLooks := .later }
def ViewDeltasUptoCardSaid : Prop := Claim7.holds Tryz.pinned (.plain (OpenSpec.upto viewDeltasSpec)) viewDeltasUptoCard
end Rows
end Go.Proofs.YtklhdalppmjnaaaGreatDoor
