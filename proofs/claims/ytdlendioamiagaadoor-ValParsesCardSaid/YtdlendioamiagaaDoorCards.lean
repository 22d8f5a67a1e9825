/-
  DERIVED. GIVEN WITH THE SEED: THE CARDS: each row of YtdlendioamiagaaDoorRows.lean that lists a variable, with what it lists TIED to the program's text (the seventh form; the later family's looks); each row that meets fmt, with fmt's text TOLD by the authors' own Lean function (tested against real Go, not proved from fmt's source: count such statements apart). THE CARD IS WHAT COUNTS. Prove the row's statement (the work); the ties are given (YtdlendioamiagaaDoorTie.lean); close each card by the builder's one call (the guide's Derived/Test/ToyasCard.lean, 'card_holds'). Laid BY PROGRAM, IN A SANDBOX (cutbox-door.mjs). By AI agents, Wed Nov 11 2026. No macro, syntax, notation, axiom, sorry.
-/
import Derived.Test.YtdlendioamiagaaDoorRows
import GoSem.ClaimSeven
namespace Go.Proofs.YtdlendioamiagaaDoor
namespace Rows

/-- THE TIED CARD OF 'rhizomelaw02.ValChecks'. -/
def valChecksCard : Claim7 := { stood := { row := valChecksRow, standIns := [], harness := (true, "6011a5f51ddfc4ffe2a909bdcc23fb0ade6000b3086d5acbd52ad68ab6786ef7"), looks := true }, kinds := [], alts := [], laidByText := true, laidKinds := [.data, .data, .data, .data, .sentinel, .sentinel, .pinned], laidTests := true, laidLooks := .later }
def ValChecksCardSaid : Prop := Claim7.holds Tryd.pinned (.plain (OpenSpec.ofChange valChecksSpec)) valChecksCard

/-- THE TIED CARD OF 'rhizomelaw02.ValParses'. -/
def valParsesCard : Claim7 := { stood := { row := valParsesRow, standIns := [], harness := (true, "6011a5f51ddfc4ffe2a909bdcc23fb0ade6000b3086d5acbd52ad68ab6786ef7"), looks := true }, kinds := [], alts := [], laidByText := true, laidKinds := [.data, .data, .data, .data, .sentinel, .sentinel, .pinned], laidTests := true, laidLooks := .later }
def ValParsesCardSaid : Prop := Claim7.holds Tryd.pinned (.plain (OpenSpec.ofChange valParsesSpec)) valParsesCard

/-- THE TIED CARD OF 'rhizomelaw02.ValDressed'. -/
def valDressedCard : Claim7 := { stood := { row := valDressedRow, standIns := [], harness := (true, "6011a5f51ddfc4ffe2a909bdcc23fb0ade6000b3086d5acbd52ad68ab6786ef7"), looks := true }, kinds := [], alts := [], laidByText := true, laidKinds := [.data, .data, .data, .data, .sentinel, .sentinel, .pinned], laidTests := true, laidLooks := .later }
def ValDressedCardSaid : Prop := Claim7.holds Tryd.pinned (.plain (OpenSpec.ofChange valDressedSpec)) valDressedCard

/-- THE TIED CARD OF 'rhizomelaw02.ValCuts'. -/
def valCutsCard : Claim7 := { stood := { row := valCutsRow, standIns := [], harness := (true, "6011a5f51ddfc4ffe2a909bdcc23fb0ade6000b3086d5acbd52ad68ab6786ef7"), looks := true }, kinds := [], alts := [], laidByText := true, laidKinds := [.data, .data, .data, .data, .sentinel, .sentinel, .pinned], laidTests := true, laidLooks := .later }
def ValCutsCardSaid : Prop := Claim7.holds Tryd.pinned (.plain (OpenSpec.ofChange valCutsSpec)) valCutsCard

/-- THE TIED CARD OF 'rhizomelaw02.ValReads'. -/
def valReadsCard : Claim7 := { stood := { row := valReadsRow, standIns := [], harness := (true, "6011a5f51ddfc4ffe2a909bdcc23fb0ade6000b3086d5acbd52ad68ab6786ef7"), looks := true }, kinds := [], alts := [], laidByText := true, laidKinds := [.data, .data, .data, .data, .sentinel, .sentinel, .pinned], laidTests := true, laidLooks := .later }
def ValReadsCardSaid : Prop := Claim7.holds Tryd.pinned (.plain (OpenSpec.ofChange valReadsSpec)) valReadsCard

/-- THE TIED CARD OF 'rhizomelaw02.ValEnds'. -/
def valEndsCard : Claim7 := { stood := { row := valEndsRow, standIns := [], harness := (true, "6011a5f51ddfc4ffe2a909bdcc23fb0ade6000b3086d5acbd52ad68ab6786ef7"), looks := true }, kinds := [], alts := [], laidByText := true, laidKinds := [.data, .data, .data, .data, .sentinel, .sentinel, .pinned], laidTests := true, laidLooks := .later }
def ValEndsCardSaid : Prop := Claim7.holds Tryd.pinned (.plain (OpenSpec.ofChange valEndsSpec)) valEndsCard

/-- THE TIED CARD OF 'rhizomelaw02.ValBack'. -/
def valBackCard : Claim7 := { stood := { row := valBackRow, standIns := [], harness := (true, "6011a5f51ddfc4ffe2a909bdcc23fb0ade6000b3086d5acbd52ad68ab6786ef7"), looks := true }, kinds := [], alts := [], laidByText := true, laidKinds := [.data, .data, .data, .data, .sentinel, .sentinel, .pinned], laidTests := true, laidLooks := .later }
def ValBackCardSaid : Prop := Claim7.holds Tryd.pinned (.plain (OpenSpec.ofChange valBackSpec)) valBackCard

/-- THE TIED CARD OF 'rhizomelaw02.ValOrders'. -/
def valOrdersCard : Claim7 := { stood := { row := valOrdersRow, standIns := [], harness := (true, "6011a5f51ddfc4ffe2a909bdcc23fb0ade6000b3086d5acbd52ad68ab6786ef7"), looks := true }, kinds := [], alts := [], laidByText := true, laidKinds := [.data, .data, .data, .data, .sentinel, .sentinel, .pinned], laidTests := true, laidLooks := .later }
def ValOrdersCardSaid : Prop := Claim7.holds Tryd.pinned (.plain (OpenSpec.ofChange valOrdersSpec)) valOrdersCard

/-- THE SECOND FORM's CARD OF 'rhizomelaw02.ValChecks'. -/
def valChecksUptoCard : Claim7 := { stood := { row := valChecksUptoRow, standIns := [], harness := (true, "6011a5f51ddfc4ffe2a909bdcc23fb0ade6000b3086d5acbd52ad68ab6786ef7"), looks := true }, kinds := [], alts := [], laidByText := true, laidKinds := [.data, .data, .data, .data, .sentinel, .sentinel, .pinned], laidTests := true, laidLooks := .later }
def ValChecksUptoCardSaid : Prop := Claim7.holds Tryd.pinned (.plain (OpenSpec.upto valChecksSpec)) valChecksUptoCard

/-- THE SECOND FORM's CARD OF 'rhizomelaw02.ValParses'. -/
def valParsesUptoCard : Claim7 := { stood := { row := valParsesUptoRow, standIns := [], harness := (true, "6011a5f51ddfc4ffe2a909bdcc23fb0ade6000b3086d5acbd52ad68ab6786ef7"), looks := true }, kinds := [], alts := [], laidByText := true, laidKinds := [.data, .data, .data, .data, .sentinel, .sentinel, .pinned], laidTests := true, laidLooks := .later }
def ValParsesUptoCardSaid : Prop := Claim7.holds Tryd.pinned (.plain (OpenSpec.upto valParsesSpec)) valParsesUptoCard

/-- THE SECOND FORM's CARD OF 'rhizomelaw02.ValDressed'. -/
def valDressedUptoCard : Claim7 := { stood := { row := valDressedUptoRow, standIns := [], harness := (true, "6011a5f51ddfc4ffe2a909bdcc23fb0ade6000b3086d5acbd52ad68ab6786ef7"), looks := true }, kinds := [], alts := [], laidByText := true, laidKinds := [.data, .data, .data, .data, .sentinel, .sentinel, .pinned], laidTests := true, laidLooks := .later }
def ValDressedUptoCardSaid : Prop := Claim7.holds Tryd.pinned (.plain (OpenSpec.upto valDressedSpec)) valDressedUptoCard

/-- THE SECOND FORM's CARD OF 'rhizomelaw02.ValCuts'. -/
def valCutsUptoCard : Claim7 := { stood := { row := valCutsUptoRow, standIns := [], harness := (true, "6011a5f51ddfc4ffe2a909bdcc23fb0ade6000b3086d5acbd52ad68ab6786ef7"), looks := true }, kinds := [], alts := [], laidByText := true, laidKinds := [.data, .data, .data, .data, .sentinel, .sentinel, .pinned], laidTests := true, laidLooks := .later }
def ValCutsUptoCardSaid : Prop := Claim7.holds Tryd.pinned (.plain (OpenSpec.upto valCutsSpec)) valCutsUptoCard

/-- THE SECOND FORM's CARD OF 'rhizomelaw02.ValReads'. -/
def valReadsUptoCard : Claim7 := { stood := { row := valReadsUptoRow, standIns := [], harness := (true, "6011a5f51ddfc4ffe2a909bdcc23fb0ade6000b3086d5acbd52ad68ab6786ef7"), looks := true }, kinds := [], alts := [], laidByText := true, laidKinds := [.data, .data, .data, .data, .sentinel, .sentinel, .pinned], laidTests := true, laidLooks := .later }
def ValReadsUptoCardSaid : Prop := Claim7.holds Tryd.pinned (.plain (OpenSpec.upto valReadsSpec)) valReadsUptoCard

/-- THE SECOND FORM's CARD OF 'rhizomelaw02.ValEnds'. -/
def valEndsUptoCard : Claim7 := { stood := { row := valEndsUptoRow, standIns := [], harness := (true, "6011a5f51ddfc4ffe2a909bdcc23fb0ade6000b3086d5acbd52ad68ab6786ef7"), looks := true }, kinds := [], alts := [], laidByText := true, laidKinds := [.data, .data, .data, .data, .sentinel, .sentinel, .pinned], laidTests := true, laidLooks := .later }
def ValEndsUptoCardSaid : Prop := Claim7.holds Tryd.pinned (.plain (OpenSpec.upto valEndsSpec)) valEndsUptoCard

/-- THE SECOND FORM's CARD OF 'rhizomelaw02.ValBack'. -/
def valBackUptoCard : Claim7 := { stood := { row := valBackUptoRow, standIns := [], harness := (true, "6011a5f51ddfc4ffe2a909bdcc23fb0ade6000b3086d5acbd52ad68ab6786ef7"), looks := true }, kinds := [], alts := [], laidByText := true, laidKinds := [.data, .data, .data, .data, .sentinel, .sentinel, .pinned], laidTests := true, laidLooks := .later }
def ValBackUptoCardSaid : Prop := Claim7.holds Tryd.pinned (.plain (OpenSpec.upto valBackSpec)) valBackUptoCard

/-- THE SECOND FORM's CARD OF 'rhizomelaw02.ValOrders'. -/
def valOrdersUptoCard : Claim7 := { stood := { row := valOrdersUptoRow, standIns := [], harness := (true, "6011a5f51ddfc4ffe2a909bdcc23fb0ade6000b3086d5acbd52ad68ab6786ef7"), looks := true }, kinds := [], alts := [], laidByText := true, laidKinds := [.data, .data, .data, .data, .sentinel, .sentinel, .pinned], laidTests := true, laidLooks := .later }
def ValOrdersUptoCardSaid : Prop := Claim7.holds Tryd.pinned (.plain (OpenSpec.upto valOrdersSpec)) valOrdersUptoCard
end Rows
end Go.Proofs.YtdlendioamiagaaDoor
