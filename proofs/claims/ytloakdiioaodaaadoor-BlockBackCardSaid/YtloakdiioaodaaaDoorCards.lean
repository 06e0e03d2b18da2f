/-
  DERIVED. GIVEN WITH THE SEED: THE CARDS: each row of YtloakdiioaodaaaDoorRows.lean that lists a variable, with what it lists TIED to the program's text (the seventh form; the later family's looks); each row that meets fmt, with fmt's text TOLD by the authors' own Lean function (tested against real Go, not proved from fmt's source: count such statements apart). THE CARD IS WHAT COUNTS. Prove the row's statement (the work); the ties are given (YtloakdiioaodaaaDoorTie.lean); close each card by the builder's one call (the guide's Derived/Test/ToyasCard.lean, 'card_holds'). Laid BY PROGRAM, IN A SANDBOX (cutbox-door.mjs). By AI agents, Wed Nov 11 2026. No macro, syntax, notation, axiom, sorry.
-/
import Derived.Test.YtloakdiioaodaaaDoorRows
import GoSem.ClaimSeven
namespace Go.Proofs.YtloakdiioaodaaaDoor
namespace Rows

/-- THE TIED CARD OF 'firkinlaw12.BlockWrites'. -/
def blockWritesCard : Claim7 := { stood := { row := blockWritesRow, standIns := [], harness := (true, "63d30dbe20b10c63de81f232ff707daec6ac5851b77d8d0d0fa967cddd407592"), looks := false }, kinds := [], alts := [], laidByText := true, laidKinds := [.data], laidTests := true, laidLooks := .later }
def BlockWritesCardSaid : Prop := Claim7.holds Tryd.pinned (.plain (OpenSpec.ofChange blockWritesSpec)) blockWritesCard

/-- THE TIED CARD OF 'firkinlaw12.BlockBack'. -/
def blockBackCard : Claim7 := { stood := { row := blockBackRow, standIns := [], harness := (true, "63d30dbe20b10c63de81f232ff707daec6ac5851b77d8d0d0fa967cddd407592"), looks := false }, kinds := [], alts := [], laidByText := true, laidKinds := [.data], laidTests := true, laidLooks := .later }
def BlockBackCardSaid : Prop := Claim7.holds Tryd.pinned (.plain (OpenSpec.ofChange blockBackSpec)) blockBackCard

/-- THE TIED CARD OF 'firkinlaw12.BlockCut'. -/
def blockCutCard : Claim7 := { stood := { row := blockCutRow, standIns := [], harness := (true, "63d30dbe20b10c63de81f232ff707daec6ac5851b77d8d0d0fa967cddd407592"), looks := false }, kinds := [], alts := [], laidByText := true, laidKinds := [.data], laidTests := true, laidLooks := .later }
def BlockCutCardSaid : Prop := Claim7.holds Tryd.pinned (.plain (OpenSpec.ofChange blockCutSpec)) blockCutCard

/-- THE TIED CARD OF 'firkinlaw12.BlockBounds'. -/
def blockBoundsCard : Claim7 := { stood := { row := blockBoundsRow, standIns := [], harness := (true, "63d30dbe20b10c63de81f232ff707daec6ac5851b77d8d0d0fa967cddd407592"), looks := false }, kinds := [], alts := [], laidByText := true, laidKinds := [.data], laidTests := true, laidLooks := .later }
def BlockBoundsCardSaid : Prop := Claim7.holds Tryd.pinned (.plain (OpenSpec.ofChange blockBoundsSpec)) blockBoundsCard

/-- THE SECOND FORM's CARD OF 'firkinlaw12.BlockWrites'. -/
def blockWritesUptoCard : Claim7 := { stood := { row := blockWritesUptoRow, standIns := [], harness := (true, "63d30dbe20b10c63de81f232ff707daec6ac5851b77d8d0d0fa967cddd407592"), looks := false }, kinds := [], alts := [], laidByText := true, laidKinds := [.data], laidTests := true, laidLooks := .later }
def BlockWritesUptoCardSaid : Prop := Claim7.holds Tryd.pinned (.plain (OpenSpec.upto blockWritesSpec)) blockWritesUptoCard

/-- THE SECOND FORM's CARD OF 'firkinlaw12.BlockBack'. -/
def blockBackUptoCard : Claim7 := { stood := { row := blockBackUptoRow, standIns := [], harness := (true, "63d30dbe20b10c63de81f232ff707daec6ac5851b77d8d0d0fa967cddd407592"), looks := false }, kinds := [], alts := [], laidByText := true, laidKinds := [.data], laidTests := true, laidLooks := .later }
def BlockBackUptoCardSaid : Prop := Claim7.holds Tryd.pinned (.plain (OpenSpec.upto blockBackSpec)) blockBackUptoCard

/-- THE SECOND FORM's CARD OF 'firkinlaw12.BlockCut'. -/
def blockCutUptoCard : Claim7 := { stood := { row := blockCutUptoRow, standIns := [], harness := (true, "63d30dbe20b10c63de81f232ff707daec6ac5851b77d8d0d0fa967cddd407592"), looks := false }, kinds := [], alts := [], laidByText := true, laidKinds := [.data], laidTests := true, laidLooks := .later }
def BlockCutUptoCardSaid : Prop := Claim7.holds Tryd.pinned (.plain (OpenSpec.upto blockCutSpec)) blockCutUptoCard

/-- THE SECOND FORM's CARD OF 'firkinlaw12.BlockBounds'. -/
def blockBoundsUptoCard : Claim7 := { stood := { row := blockBoundsUptoRow, standIns := [], harness := (true, "63d30dbe20b10c63de81f232ff707daec6ac5851b77d8d0d0fa967cddd407592"), looks := false }, kinds := [], alts := [], laidByText := true, laidKinds := [.data], laidTests := true, laidLooks := .later }
def BlockBoundsUptoCardSaid : Prop := Claim7.holds Tryd.pinned (.plain (OpenSpec.upto blockBoundsSpec)) blockBoundsUptoCard
end Rows
end Go.Proofs.YtloakdiioaodaaaDoor
