/-
  DERIVED. GIVEN WITH THE SEED: THE CARDS: each row of YtbgoibedicbkjaaGreatDoorRows.lean that lists a variable, with what it lists TIED to the program's text (the seventh form; the later family's looks); each row that meets fmt, with fmt's text TOLD by the authors' own Lean function (tested against real Go, not proved from fmt's source: count such statements apart). THE CARD IS WHAT COUNTS. Prove the row's statement (the work); the ties are given (YtbgoibedicbkjaaGreatDoorTie.lean); close each card by the builder's one call (the guide's Derived/Test/ToyasCard.lean, 'card_holds'). Laid BY PROGRAM, IN A SANDBOX (cutbox-door.mjs). By AI agents, Wed Nov 11 2026. No macro, syntax, notation, axiom, sorry.
-/
import Derived.Test.YtbgoibedicbkjaaGreatDoorRows
import GoSem.ClaimSeven
namespace Go.Proofs.YtbgoibedicbkjaaGreatDoor
namespace Rows

/-- THE TIED CARD OF 'firkinlaw22.TwoOpens'. -/
def twoOpensCard : Claim7 := { stood := { row := twoOpensRow, standIns := [], harness := (true, "38ac4c111bb77bf1d4556f891271aac32f53d0cdba9a82abb741016b3a5208fc"), looks := false }, kinds := [], alts := [], laidByText := true, laidKinds := [.data], laidTests := true, laidLooks := .later }
def TwoOpensCardSaid : Prop := Claim7.holds Tryz.pinned (.plain (OpenSpec.ofChange twoOpensSpec)) twoOpensCard

/-- THE TIED CARD OF 'firkinlaw20.BodyBlocks'. -/
def bodyBlocksCard : Claim7 := { stood := { row := bodyBlocksRow, standIns := [], harness := (true, "38ac4c111bb77bf1d4556f891271aac32f53d0cdba9a82abb741016b3a5208fc"), looks := false }, kinds := [], alts := [], laidByText := true, laidKinds := [.data], laidTests := true, laidLooks := .later }
def BodyBlocksCardSaid : Prop := Claim7.holds Tryz.pinned (.plain (OpenSpec.ofChange bodyBlocksSpec)) bodyBlocksCard

/-- THE TIED CARD OF 'firkinlaw20.BodyLogs'. -/
def bodyLogsCard : Claim7 := { stood := { row := bodyLogsRow, standIns := [], harness := (true, "38ac4c111bb77bf1d4556f891271aac32f53d0cdba9a82abb741016b3a5208fc"), looks := false }, kinds := [], alts := [], laidByText := true, laidKinds := [.data], laidTests := true, laidLooks := .later }
def BodyLogsCardSaid : Prop := Claim7.holds Tryz.pinned (.plain (OpenSpec.ofChange bodyLogsSpec)) bodyLogsCard

/-- THE TIED CARD OF 'firkinlaw20.BodyOpened'. -/
def bodyOpenedCard : Claim7 := { stood := { row := bodyOpenedRow, standIns := [], harness := (true, "38ac4c111bb77bf1d4556f891271aac32f53d0cdba9a82abb741016b3a5208fc"), looks := false }, kinds := [], alts := [], laidByText := true, laidKinds := [.data], laidTests := true, laidLooks := .later }
def BodyOpenedCardSaid : Prop := Claim7.holds Tryz.pinned (.plain (OpenSpec.ofChange bodyOpenedSpec)) bodyOpenedCard

/-- THE TIED CARD OF 'firkinlaw22.TwoUnpacks'. -/
def twoUnpacksCard : Claim7 := { stood := { row := twoUnpacksRow, standIns := [], harness := (true, "38ac4c111bb77bf1d4556f891271aac32f53d0cdba9a82abb741016b3a5208fc"), looks := false }, kinds := [], alts := [], laidByText := true, laidKinds := [.data], laidTests := true, laidLooks := .later }
def TwoUnpacksCardSaid : Prop := Claim7.holds Tryz.pinned (.plain (OpenSpec.ofChange twoUnpacksSpec)) twoUnpacksCard

/-- THE SECOND FORM's CARD OF 'firkinlaw22.TwoOpens'. -/
def twoOpensUptoCard : Claim7 := { stood := { row := twoOpensUptoRow, standIns := [], harness := (true, "38ac4c111bb77bf1d4556f891271aac32f53d0cdba9a82abb741016b3a5208fc"), looks := false }, kinds := [], alts := [], laidByText := true, laidKinds := [.data], laidTests := true, laidLooks := .later }
def TwoOpensUptoCardSaid : Prop := Claim7.holds Tryz.pinned (.plain (OpenSpec.upto twoOpensSpec)) twoOpensUptoCard

/-- THE SECOND FORM's CARD OF 'firkinlaw20.BodyBlocks'. -/
def bodyBlocksUptoCard : Claim7 := { stood := { row := bodyBlocksUptoRow, standIns := [], harness := (true, "38ac4c111bb77bf1d4556f891271aac32f53d0cdba9a82abb741016b3a5208fc"), looks := false }, kinds := [], alts := [], laidByText := true, laidKinds := [.data], laidTests := true, laidLooks := .later }
def BodyBlocksUptoCardSaid : Prop := Claim7.holds Tryz.pinned (.plain (OpenSpec.upto bodyBlocksSpec)) bodyBlocksUptoCard

/-- THE SECOND FORM's CARD OF 'firkinlaw20.BodyLogs'. -/
def bodyLogsUptoCard : Claim7 := { stood := { row := bodyLogsUptoRow, standIns := [], harness := (true, "38ac4c111bb77bf1d4556f891271aac32f53d0cdba9a82abb741016b3a5208fc"), looks := false }, kinds := [], alts := [], laidByText := true, laidKinds := [.data], laidTests := true, laidLooks := .later }
def BodyLogsUptoCardSaid : Prop := Claim7.holds Tryz.pinned (.plain (OpenSpec.upto bodyLogsSpec)) bodyLogsUptoCard

/-- THE SECOND FORM's CARD OF 'firkinlaw20.BodyOpened'. -/
def bodyOpenedUptoCard : Claim7 := { stood := { row := bodyOpenedUptoRow, standIns := [], harness := (true, "38ac4c111bb77bf1d4556f891271aac32f53d0cdba9a82abb741016b3a5208fc"), looks := false }, kinds := [], alts := [], laidByText := true, laidKinds := [.data], laidTests := true, laidLooks := .later }
def BodyOpenedUptoCardSaid : Prop := Claim7.holds Tryz.pinned (.plain (OpenSpec.upto bodyOpenedSpec)) bodyOpenedUptoCard

/-- THE SECOND FORM's CARD OF 'firkinlaw22.TwoUnpacks'. -/
def twoUnpacksUptoCard : Claim7 := { stood := { row := twoUnpacksUptoRow, standIns := [], harness := (true, "38ac4c111bb77bf1d4556f891271aac32f53d0cdba9a82abb741016b3a5208fc"), looks := false }, kinds := [], alts := [], laidByText := true, laidKinds := [.data], laidTests := true, laidLooks := .later }
def TwoUnpacksUptoCardSaid : Prop := Claim7.holds Tryz.pinned (.plain (OpenSpec.upto twoUnpacksSpec)) twoUnpacksUptoCard
end Rows
end Go.Proofs.YtbgoibedicbkjaaGreatDoor
