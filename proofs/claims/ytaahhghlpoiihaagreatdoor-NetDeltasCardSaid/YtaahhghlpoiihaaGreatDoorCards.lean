/-
  DERIVED. GIVEN WITH THE SEED: THE CARDS: each row of YtaahhghlpoiihaaGreatDoorRows.lean that lists a variable, with what it lists TIED to the program's text (the seventh form; the later family's looks); each row that meets fmt, with fmt's text TOLD by the authors' own Lean function (tested against real Go, not proved from fmt's source: count such statements apart). THE CARD IS WHAT COUNTS. Prove the row's statement (the work); the ties are given (YtaahhghlpoiihaaGreatDoorTie.lean); close each card by the builder's one call (the guide's Derived/Test/ToyasCard.lean, 'card_holds'). Laid BY PROGRAM, IN A SANDBOX (cutbox-door.mjs). By AI agents, Wed Nov 11 2026. No macro, syntax, notation, axiom, sorry.
-/
import Derived.Test.YtaahhghlpoiihaaGreatDoorRows
import GoSem.ClaimSeven
namespace Go.Proofs.YtaahhghlpoiihaaGreatDoor
namespace Rows

/-- THE TIED CARD OF 'rhizomelaw12.NetBack'. -/
def netBackCard : Claim7 := { stood := { row := netBackRow, standIns := [], harness := (true, "9854bb51b919f7cf85b6ca0bccb2eecf1c0dc6069bf2a399c81c07748162a02a"), looks := false }, kinds := [], alts := [], laidByText := true, laidKinds := [.data, .pinned], laidTests := true, laidLooks := .later }
def NetBackCardSaid : Prop := Claim7.holds Tryz.pinned (.plain (OpenSpec.ofChange netBackSpec)) netBackCard

/-- THE TIED CARD OF 'rhizomelaw12.NetGreat'. -/
def netGreatCard : Claim7 := { stood := { row := netGreatRow, standIns := [], harness := (true, "9854bb51b919f7cf85b6ca0bccb2eecf1c0dc6069bf2a399c81c07748162a02a"), looks := false }, kinds := [], alts := [], laidByText := true, laidKinds := [.data, .pinned], laidTests := true, laidLooks := .later }
def NetGreatCardSaid : Prop := Claim7.holds Tryz.pinned (.plain (OpenSpec.ofChange netGreatSpec)) netGreatCard

/-- THE TIED CARD OF 'rhizomelaw12.NetOrder'. -/
def netOrderCard : Claim7 := { stood := { row := netOrderRow, standIns := [], harness := (true, "9854bb51b919f7cf85b6ca0bccb2eecf1c0dc6069bf2a399c81c07748162a02a"), looks := false }, kinds := [], alts := [], laidByText := true, laidKinds := [.data, .pinned], laidTests := true, laidLooks := .later }
def NetOrderCardSaid : Prop := Claim7.holds Tryz.pinned (.plain (OpenSpec.ofChange netOrderSpec)) netOrderCard

/-- THE TIED CARD OF 'rhizomelaw12.NetSums'. -/
def netSumsCard : Claim7 := { stood := { row := netSumsRow, standIns := [], harness := (true, "9854bb51b919f7cf85b6ca0bccb2eecf1c0dc6069bf2a399c81c07748162a02a"), looks := false }, kinds := [], alts := [], laidByText := true, laidKinds := [.data, .pinned], laidTests := true, laidLooks := .later }
def NetSumsCardSaid : Prop := Claim7.holds Tryz.pinned (.plain (OpenSpec.ofChange netSumsSpec)) netSumsCard

/-- THE TIED CARD OF 'rhizomelaw12.NetDeltas'. -/
def netDeltasCard : Claim7 := { stood := { row := netDeltasRow, standIns := [], harness := (true, "9854bb51b919f7cf85b6ca0bccb2eecf1c0dc6069bf2a399c81c07748162a02a"), looks := false }, kinds := [], alts := [], laidByText := true, laidKinds := [.data, .pinned], laidTests := true, laidLooks := .later }
def NetDeltasCardSaid : Prop := Claim7.holds Tryz.pinned (.plain (OpenSpec.ofChange netDeltasSpec)) netDeltasCard

/-- THE SECOND FORM's CARD OF 'rhizomelaw12.NetBack'. -/
def netBackUptoCard : Claim7 := { stood := { row := netBackUptoRow, standIns := [], harness := (true, "9854bb51b919f7cf85b6ca0bccb2eecf1c0dc6069bf2a399c81c07748162a02a"), looks := false }, kinds := [], alts := [], laidByText := true, laidKinds := [.data, .pinned], laidTests := true, laidLooks := .later }
def NetBackUptoCardSaid : Prop := Claim7.holds Tryz.pinned (.plain (OpenSpec.upto netBackSpec)) netBackUptoCard

/-- THE SECOND FORM's CARD OF 'rhizomelaw12.NetGreat'. -/
def netGreatUptoCard : Claim7 := { stood := { row := netGreatUptoRow, standIns := [], harness := (true, "9854bb51b919f7cf85b6ca0bccb2eecf1c0dc6069bf2a399c81c07748162a02a"), looks := false }, kinds := [], alts := [], laidByText := true, laidKinds := [.data, .pinned], laidTests := true, laidLooks := .later }
def NetGreatUptoCardSaid : Prop := Claim7.holds Tryz.pinned (.plain (OpenSpec.upto netGreatSpec)) netGreatUptoCard

/-- THE SECOND FORM's CARD OF 'rhizomelaw12.NetOrder'. -/
def netOrderUptoCard : Claim7 := { stood := { row := netOrderUptoRow, standIns := [], harness := (true, "9854bb51b919f7cf85b6ca0bccb2eecf1c0dc6069bf2a399c81c07748162a02a"), looks := false }, kinds := [], alts := [], laidByText := true, laidKinds := [.data, .pinned], laidTests := true, laidLooks := .later }
def NetOrderUptoCardSaid : Prop := Claim7.holds Tryz.pinned (.plain (OpenSpec.upto netOrderSpec)) netOrderUptoCard

/-- THE SECOND FORM's CARD OF 'rhizomelaw12.NetSums'. -/
def netSumsUptoCard : Claim7 := { stood := { row := netSumsUptoRow, standIns := [], harness := (true, "9854bb51b919f7cf85b6ca0bccb2eecf1c0dc6069bf2a399c81c07748162a02a"), looks := false }, kinds := [], alts := [], laidByText := true, laidKinds := [.data, .pinned], laidTests := true, laidLooks := .later }
def NetSumsUptoCardSaid : Prop := Claim7.holds Tryz.pinned (.plain (OpenSpec.upto netSumsSpec)) netSumsUptoCard

/-- THE SECOND FORM's CARD OF 'rhizomelaw12.NetDeltas'. -/
def netDeltasUptoCard : Claim7 := { stood := { row := netDeltasUptoRow, standIns := [], harness := (true, "9854bb51b919f7cf85b6ca0bccb2eecf1c0dc6069bf2a399c81c07748162a02a"), looks := false }, kinds := [], alts := [], laidByText := true, laidKinds := [.data, .pinned], laidTests := true, laidLooks := .later }
def NetDeltasUptoCardSaid : Prop := Claim7.holds Tryz.pinned (.plain (OpenSpec.upto netDeltasSpec)) netDeltasUptoCard
end Rows
end Go.Proofs.YtaahhghlpoiihaaGreatDoor
