/-
  DERIVED. GIVEN WITH THE SEED: THE CARDS: each row of YtoaeaclcbcpheaaDoorRows.lean that lists a variable, with what it lists TIED to the program's text (the seventh form; the later family's looks); each row that meets fmt, with fmt's text TOLD by the authors' own Lean function (tested against real Go, not proved from fmt's source: count such statements apart). THE CARD IS WHAT COUNTS. Prove the row's statement (the work); the ties are given (YtoaeaclcbcpheaaDoorTie.lean); close each card by the builder's one call (the guide's Derived/Test/ToyasCard.lean, 'card_holds'). Laid BY PROGRAM, IN A SANDBOX (cutbox-door.mjs). By AI agents, Wed Nov 11 2026. No macro, syntax, notation, axiom, sorry.
-/
import Derived.Test.YtoaeaclcbcpheaaDoorRows
import GoSem.ClaimSeven
namespace Go.Proofs.YtoaeaclcbcpheaaDoor
namespace Rows

/-- THE TIED CARD OF 'rhizomelaw19.TokenWrites'. -/
def tokenWritesCard : Claim7 := { stood := { row := tokenWritesRow, standIns := [], harness := (true, "f23c44ee8fa5b44eab0d6b294cf2e339741bdfbb47c1aa122c89b3f5c68f98fc"), looks := true }, kinds := [], alts := [], laidByText := true, laidKinds := [.data, .data, .data, .data, .sentinel, .sentinel, .pinned], laidTests := true, laidLooks := .later }
def TokenWritesCardSaid : Prop := Claim7.holds Tryd.pinned (.plain (OpenSpec.ofChange tokenWritesSpec)) tokenWritesCard

/-- THE TIED CARD OF 'rhizomelaw19.TokenReads'. -/
def tokenReadsCard : Claim7 := { stood := { row := tokenReadsRow, standIns := [], harness := (true, "f23c44ee8fa5b44eab0d6b294cf2e339741bdfbb47c1aa122c89b3f5c68f98fc"), looks := true }, kinds := [], alts := [], laidByText := true, laidKinds := [.data, .data, .data, .data, .sentinel, .sentinel, .pinned], laidTests := true, laidLooks := .later }
def TokenReadsCardSaid : Prop := Claim7.holds Tryd.pinned (.plain (OpenSpec.ofChange tokenReadsSpec)) tokenReadsCard

/-- THE TIED CARD OF 'rhizomelaw19.TokenChecks'. -/
def tokenChecksCard : Claim7 := { stood := { row := tokenChecksRow, standIns := [], harness := (true, "f23c44ee8fa5b44eab0d6b294cf2e339741bdfbb47c1aa122c89b3f5c68f98fc"), looks := true }, kinds := [], alts := [], laidByText := true, laidKinds := [.data, .data, .data, .data, .sentinel, .sentinel, .pinned], laidTests := true, laidLooks := .later }
def TokenChecksCardSaid : Prop := Claim7.holds Tryd.pinned (.plain (OpenSpec.ofChange tokenChecksSpec)) tokenChecksCard

/-- THE TIED CARD OF 'rhizomelaw19.TokenApart'. -/
def tokenApartCard : Claim7 := { stood := { row := tokenApartRow, standIns := [], harness := (true, "f23c44ee8fa5b44eab0d6b294cf2e339741bdfbb47c1aa122c89b3f5c68f98fc"), looks := true }, kinds := [], alts := [], laidByText := true, laidKinds := [.data, .data, .data, .data, .sentinel, .sentinel, .pinned], laidTests := true, laidLooks := .later }
def TokenApartCardSaid : Prop := Claim7.holds Tryd.pinned (.plain (OpenSpec.ofChange tokenApartSpec)) tokenApartCard

/-- THE TIED CARD OF 'rhizomelaw19.TokenTurned'. -/
def tokenTurnedCard : Claim7 := { stood := { row := tokenTurnedRow, standIns := [], harness := (true, "f23c44ee8fa5b44eab0d6b294cf2e339741bdfbb47c1aa122c89b3f5c68f98fc"), looks := true }, kinds := [], alts := [], laidByText := true, laidKinds := [.data, .data, .data, .data, .sentinel, .sentinel, .pinned], laidTests := true, laidLooks := .later }
def TokenTurnedCardSaid : Prop := Claim7.holds Tryd.pinned (.plain (OpenSpec.ofChange tokenTurnedSpec)) tokenTurnedCard

/-- THE SECOND FORM's CARD OF 'rhizomelaw19.TokenWrites'. -/
def tokenWritesUptoCard : Claim7 := { stood := { row := tokenWritesUptoRow, standIns := [], harness := (true, "f23c44ee8fa5b44eab0d6b294cf2e339741bdfbb47c1aa122c89b3f5c68f98fc"), looks := true }, kinds := [], alts := [], laidByText := true, laidKinds := [.data, .data, .data, .data, .sentinel, .sentinel, .pinned], laidTests := true, laidLooks := .later }
def TokenWritesUptoCardSaid : Prop := Claim7.holds Tryd.pinned (.plain (OpenSpec.upto tokenWritesSpec)) tokenWritesUptoCard

/-- THE SECOND FORM's CARD OF 'rhizomelaw19.TokenReads'. -/
def tokenReadsUptoCard : Claim7 := { stood := { row := tokenReadsUptoRow, standIns := [], harness := (true, "f23c44ee8fa5b44eab0d6b294cf2e339741bdfbb47c1aa122c89b3f5c68f98fc"), looks := true }, kinds := [], alts := [], laidByText := true, laidKinds := [.data, .data, .data, .data, .sentinel, .sentinel, .pinned], laidTests := true, laidLooks := .later }
def TokenReadsUptoCardSaid : Prop := Claim7.holds Tryd.pinned (.plain (OpenSpec.upto tokenReadsSpec)) tokenReadsUptoCard

/-- THE SECOND FORM's CARD OF 'rhizomelaw19.TokenChecks'. -/
def tokenChecksUptoCard : Claim7 := { stood := { row := tokenChecksUptoRow, standIns := [], harness := (true, "f23c44ee8fa5b44eab0d6b294cf2e339741bdfbb47c1aa122c89b3f5c68f98fc"), looks := true }, kinds := [], alts := [], laidByText := true, laidKinds := [.data, .data, .data, .data, .sentinel, .sentinel, .pinned], laidTests := true, laidLooks := .later }
def TokenChecksUptoCardSaid : Prop := Claim7.holds Tryd.pinned (.plain (OpenSpec.upto tokenChecksSpec)) tokenChecksUptoCard

/-- THE SECOND FORM's CARD OF 'rhizomelaw19.TokenApart'. -/
def tokenApartUptoCard : Claim7 := { stood := { row := tokenApartUptoRow, standIns := [], harness := (true, "f23c44ee8fa5b44eab0d6b294cf2e339741bdfbb47c1aa122c89b3f5c68f98fc"), looks := true }, kinds := [], alts := [], laidByText := true, laidKinds := [.data, .data, .data, .data, .sentinel, .sentinel, .pinned], laidTests := true, laidLooks := .later }
def TokenApartUptoCardSaid : Prop := Claim7.holds Tryd.pinned (.plain (OpenSpec.upto tokenApartSpec)) tokenApartUptoCard

/-- THE SECOND FORM's CARD OF 'rhizomelaw19.TokenTurned'. -/
def tokenTurnedUptoCard : Claim7 := { stood := { row := tokenTurnedUptoRow, standIns := [], harness := (true, "f23c44ee8fa5b44eab0d6b294cf2e339741bdfbb47c1aa122c89b3f5c68f98fc"), looks := true }, kinds := [], alts := [], laidByText := true, laidKinds := [.data, .data, .data, .data, .sentinel, .sentinel, .pinned], laidTests := true, laidLooks := .later }
def TokenTurnedUptoCardSaid : Prop := Claim7.holds Tryd.pinned (.plain (OpenSpec.upto tokenTurnedSpec)) tokenTurnedUptoCard
end Rows
end Go.Proofs.YtoaeaclcbcpheaaDoor
