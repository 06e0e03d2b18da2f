/-
  DERIVED. GIVEN WITH THE SEED: THE CARDS: each row of YtmgjgkdbagbleaaGreatDoorRows.lean that lists a variable, with what it lists TIED to the program's text (the seventh form; the later family's looks); each row that meets fmt, with fmt's text TOLD by the authors' own Lean function (tested against real Go, not proved from fmt's source: count such statements apart). THE CARD IS WHAT COUNTS. Prove the row's statement (the work); the ties are given (YtmgjgkdbagbleaaGreatDoorTie.lean); close each card by the builder's one call (the guide's Derived/Test/ToyasCard.lean, 'card_holds'). Laid BY PROGRAM, IN A SANDBOX (cutbox-door.mjs). By AI agents, Wed Nov 11 2026. No macro, syntax, notation, axiom, sorry.
-/
import Derived.Test.YtmgjgkdbagbleaaGreatDoorRows
import GoSem.ClaimSeven
namespace Go.Proofs.YtmgjgkdbagbleaaGreatDoor
namespace Rows

/-- THE TIED CARD OF 'firkinlaw21.OneUnpacks'. -/
def oneUnpacksCard : Claim7 := { stood := { row := oneUnpacksRow, standIns := [], harness := (true, "c72aa446f060dcd4b180fce9cfbf5b23bcc795995bdd20b1414f439a8434b3de"), looks := false }, kinds := [], alts := [], laidByText := true, laidKinds := [.data], laidTests := true, laidLooks := .later }
def OneUnpacksCardSaid : Prop := Claim7.holds Tryz.pinned (.plain (OpenSpec.ofChange oneUnpacksSpec)) oneUnpacksCard

/-- THE TIED CARD OF 'firkinlaw21.OneBack'. -/
def oneBackCard : Claim7 := { stood := { row := oneBackRow, standIns := [], harness := (true, "c72aa446f060dcd4b180fce9cfbf5b23bcc795995bdd20b1414f439a8434b3de"), looks := false }, kinds := [], alts := [], laidByText := true, laidKinds := [.data], laidTests := true, laidLooks := .later }
def OneBackCardSaid : Prop := Claim7.holds Tryz.pinned (.plain (OpenSpec.ofChange oneBackSpec)) oneBackCard

/-- THE TIED CARD OF 'firkinlaw21.OneTurned'. -/
def oneTurnedCard : Claim7 := { stood := { row := oneTurnedRow, standIns := [], harness := (true, "c72aa446f060dcd4b180fce9cfbf5b23bcc795995bdd20b1414f439a8434b3de"), looks := false }, kinds := [], alts := [], laidByText := true, laidKinds := [.data], laidTests := true, laidLooks := .later }
def OneTurnedCardSaid : Prop := Claim7.holds Tryz.pinned (.plain (OpenSpec.ofChange oneTurnedSpec)) oneTurnedCard

/-- THE TIED CARD OF 'firkinlaw20.BodyMakes'. -/
def bodyMakesCard : Claim7 := { stood := { row := bodyMakesRow, standIns := [], harness := (true, "c72aa446f060dcd4b180fce9cfbf5b23bcc795995bdd20b1414f439a8434b3de"), looks := false }, kinds := [], alts := [], laidByText := true, laidKinds := [.data], laidTests := true, laidLooks := .later }
def BodyMakesCardSaid : Prop := Claim7.holds Tryz.pinned (.plain (OpenSpec.ofChange bodyMakesSpec)) bodyMakesCard

/-- THE TIED CARD OF 'firkinlaw22.TwoPacks'. -/
def twoPacksCard : Claim7 := { stood := { row := twoPacksRow, standIns := [], harness := (true, "c72aa446f060dcd4b180fce9cfbf5b23bcc795995bdd20b1414f439a8434b3de"), looks := false }, kinds := [], alts := [], laidByText := true, laidKinds := [.data], laidTests := true, laidLooks := .later }
def TwoPacksCardSaid : Prop := Claim7.holds Tryz.pinned (.plain (OpenSpec.ofChange twoPacksSpec)) twoPacksCard

/-- THE TIED CARD OF 'firkinlaw20.BodyNone'. -/
def bodyNoneCard : Claim7 := { stood := { row := bodyNoneRow, standIns := [], harness := (true, "c72aa446f060dcd4b180fce9cfbf5b23bcc795995bdd20b1414f439a8434b3de"), looks := false }, kinds := [], alts := [], laidByText := true, laidKinds := [.data], laidTests := true, laidLooks := .later }
def BodyNoneCardSaid : Prop := Claim7.holds Tryz.pinned (.plain (OpenSpec.ofChange bodyNoneSpec)) bodyNoneCard

/-- THE TIED CARD OF 'firkinlaw20.BodyOpens'. -/
def bodyOpensCard : Claim7 := { stood := { row := bodyOpensRow, standIns := [], harness := (true, "c72aa446f060dcd4b180fce9cfbf5b23bcc795995bdd20b1414f439a8434b3de"), looks := false }, kinds := [], alts := [], laidByText := true, laidKinds := [.data], laidTests := true, laidLooks := .later }
def BodyOpensCardSaid : Prop := Claim7.holds Tryz.pinned (.plain (OpenSpec.ofChange bodyOpensSpec)) bodyOpensCard

/-- THE TIED CARD OF 'firkinlaw22.TwoOpens'. -/
def twoOpensCard : Claim7 := { stood := { row := twoOpensRow, standIns := [], harness := (true, "c72aa446f060dcd4b180fce9cfbf5b23bcc795995bdd20b1414f439a8434b3de"), looks := false }, kinds := [], alts := [], laidByText := true, laidKinds := [.data], laidTests := true, laidLooks := .later }
def TwoOpensCardSaid : Prop := Claim7.holds Tryz.pinned (.plain (OpenSpec.ofChange twoOpensSpec)) twoOpensCard

/-- THE TIED CARD OF 'firkinlaw20.BodyBlocks'. -/
def bodyBlocksCard : Claim7 := { stood := { row := bodyBlocksRow, standIns := [], harness := (true, "c72aa446f060dcd4b180fce9cfbf5b23bcc795995bdd20b1414f439a8434b3de"), looks := false }, kinds := [], alts := [], laidByText := true, laidKinds := [.data], laidTests := true, laidLooks := .later }
def BodyBlocksCardSaid : Prop := Claim7.holds Tryz.pinned (.plain (OpenSpec.ofChange bodyBlocksSpec)) bodyBlocksCard

/-- THE TIED CARD OF 'firkinlaw20.BodyLogs'. -/
def bodyLogsCard : Claim7 := { stood := { row := bodyLogsRow, standIns := [], harness := (true, "c72aa446f060dcd4b180fce9cfbf5b23bcc795995bdd20b1414f439a8434b3de"), looks := false }, kinds := [], alts := [], laidByText := true, laidKinds := [.data], laidTests := true, laidLooks := .later }
def BodyLogsCardSaid : Prop := Claim7.holds Tryz.pinned (.plain (OpenSpec.ofChange bodyLogsSpec)) bodyLogsCard

/-- THE TIED CARD OF 'firkinlaw20.BodyBack'. -/
def bodyBackCard : Claim7 := { stood := { row := bodyBackRow, standIns := [], harness := (true, "c72aa446f060dcd4b180fce9cfbf5b23bcc795995bdd20b1414f439a8434b3de"), looks := false }, kinds := [], alts := [], laidByText := true, laidKinds := [.data], laidTests := true, laidLooks := .later }
def BodyBackCardSaid : Prop := Claim7.holds Tryz.pinned (.plain (OpenSpec.ofChange bodyBackSpec)) bodyBackCard

/-- THE TIED CARD OF 'firkinlaw20.BodyIndex'. -/
def bodyIndexCard : Claim7 := { stood := { row := bodyIndexRow, standIns := [], harness := (true, "c72aa446f060dcd4b180fce9cfbf5b23bcc795995bdd20b1414f439a8434b3de"), looks := false }, kinds := [], alts := [], laidByText := true, laidKinds := [.data], laidTests := true, laidLooks := .later }
def BodyIndexCardSaid : Prop := Claim7.holds Tryz.pinned (.plain (OpenSpec.ofChange bodyIndexSpec)) bodyIndexCard

/-- THE TIED CARD OF 'firkinlaw20.BodyOpened'. -/
def bodyOpenedCard : Claim7 := { stood := { row := bodyOpenedRow, standIns := [], harness := (true, "c72aa446f060dcd4b180fce9cfbf5b23bcc795995bdd20b1414f439a8434b3de"), looks := false }, kinds := [], alts := [], laidByText := true, laidKinds := [.data], laidTests := true, laidLooks := .later }
def BodyOpenedCardSaid : Prop := Claim7.holds Tryz.pinned (.plain (OpenSpec.ofChange bodyOpenedSpec)) bodyOpenedCard

/-- THE TIED CARD OF 'firkinlaw22.TwoUnpacks'. -/
def twoUnpacksCard : Claim7 := { stood := { row := twoUnpacksRow, standIns := [], harness := (true, "c72aa446f060dcd4b180fce9cfbf5b23bcc795995bdd20b1414f439a8434b3de"), looks := false }, kinds := [], alts := [], laidByText := true, laidKinds := [.data], laidTests := true, laidLooks := .later }
def TwoUnpacksCardSaid : Prop := Claim7.holds Tryz.pinned (.plain (OpenSpec.ofChange twoUnpacksSpec)) twoUnpacksCard

/-- THE TIED CARD OF 'firkinlaw22.TwoBack'. -/
def twoBackCard : Claim7 := { stood := { row := twoBackRow, standIns := [], harness := (true, "c72aa446f060dcd4b180fce9cfbf5b23bcc795995bdd20b1414f439a8434b3de"), looks := false }, kinds := [], alts := [], laidByText := true, laidKinds := [.data], laidTests := true, laidLooks := .later }
def TwoBackCardSaid : Prop := Claim7.holds Tryz.pinned (.plain (OpenSpec.ofChange twoBackSpec)) twoBackCard

/-- THE SECOND FORM's CARD OF 'firkinlaw21.OneUnpacks'. -/
def oneUnpacksUptoCard : Claim7 := { stood := { row := oneUnpacksUptoRow, standIns := [], harness := (true, "c72aa446f060dcd4b180fce9cfbf5b23bcc795995bdd20b1414f439a8434b3de"), looks := false }, kinds := [], alts := [], laidByText := true, laidKinds := [.data], laidTests := true, laidLooks := .later }
def OneUnpacksUptoCardSaid : Prop := Claim7.holds Tryz.pinned (.plain (OpenSpec.upto oneUnpacksSpec)) oneUnpacksUptoCard

/-- THE SECOND FORM's CARD OF 'firkinlaw21.OneBack'. -/
def oneBackUptoCard : Claim7 := { stood := { row := oneBackUptoRow, standIns := [], harness := (true, "c72aa446f060dcd4b180fce9cfbf5b23bcc795995bdd20b1414f439a8434b3de"), looks := false }, kinds := [], alts := [], laidByText := true, laidKinds := [.data], laidTests := true, laidLooks := .later }
def OneBackUptoCardSaid : Prop := Claim7.holds Tryz.pinned (.plain (OpenSpec.upto oneBackSpec)) oneBackUptoCard

/-- THE SECOND FORM's CARD OF 'firkinlaw21.OneTurned'. -/
def oneTurnedUptoCard : Claim7 := { stood := { row := oneTurnedUptoRow, standIns := [], harness := (true, "c72aa446f060dcd4b180fce9cfbf5b23bcc795995bdd20b1414f439a8434b3de"), looks := false }, kinds := [], alts := [], laidByText := true, laidKinds := [.data], laidTests := true, laidLooks := .later }
def OneTurnedUptoCardSaid : Prop := Claim7.holds Tryz.pinned (.plain (OpenSpec.upto oneTurnedSpec)) oneTurnedUptoCard

/-- THE SECOND FORM's CARD OF 'firkinlaw20.BodyMakes'. -/
def bodyMakesUptoCard : Claim7 := { stood := { row := bodyMakesUptoRow, standIns := [], harness := (true, "c72aa446f060dcd4b180fce9cfbf5b23bcc795995bdd20b1414f439a8434b3de"), looks := false }, kinds := [], alts := [], laidByText := true, laidKinds := [.data], laidTests := true, laidLooks := .later }
def BodyMakesUptoCardSaid : Prop := Claim7.holds Tryz.pinned (.plain (OpenSpec.upto bodyMakesSpec)) bodyMakesUptoCard

/-- THE SECOND FORM's CARD OF 'firkinlaw22.TwoPacks'. -/
def twoPacksUptoCard : Claim7 := { stood := { row := twoPacksUptoRow, standIns := [], harness := (true, "c72aa446f060dcd4b180fce9cfbf5b23bcc795995bdd20b1414f439a8434b3de"), looks := false }, kinds := [], alts := [], laidByText := true, laidKinds := [.data], laidTests := true, laidLooks := .later }
def TwoPacksUptoCardSaid : Prop := Claim7.holds Tryz.pinned (.plain (OpenSpec.upto twoPacksSpec)) twoPacksUptoCard

/-- THE SECOND FORM's CARD OF 'firkinlaw20.BodyNone'. -/
def bodyNoneUptoCard : Claim7 := { stood := { row := bodyNoneUptoRow, standIns := [], harness := (true, "c72aa446f060dcd4b180fce9cfbf5b23bcc795995bdd20b1414f439a8434b3de"), looks := false }, kinds := [], alts := [], laidByText := true, laidKinds := [.data], laidTests := true, laidLooks := .later }
def BodyNoneUptoCardSaid : Prop := Claim7.holds Tryz.pinned (.plain (OpenSpec.upto bodyNoneSpec)) bodyNoneUptoCard

/-- THE SECOND FORM's CARD OF 'firkinlaw20.BodyOpens'. -/
def bodyOpensUptoCard : Claim7 := { stood := { row := bodyOpensUptoRow, standIns := [], harness := (true, "c72aa446f060dcd4b180fce9cfbf5b23bcc795995bdd20b1414f439a8434b3de"), looks := false }, kinds := [], alts := [], laidByText := true, laidKinds := [.data], laidTests := true, laidLooks := .later }
def BodyOpensUptoCardSaid : Prop := Claim7.holds Tryz.pinned (.plain (OpenSpec.upto bodyOpensSpec)) bodyOpensUptoCard

/-- THE SECOND FORM's CARD OF 'firkinlaw22.TwoOpens'. -/
def twoOpensUptoCard : Claim7 := { stood := { row := twoOpensUptoRow, standIns := [], harness := (true, "c72aa446f060dcd4b180fce9cfbf5b23bcc795995bdd20b1414f439a8434b3de"), looks := false }, kinds := [], alts := [], laidByText := true, laidKinds := [.data], laidTests := true, laidLooks := .later }
def TwoOpensUptoCardSaid : Prop := Claim7.holds Tryz.pinned (.plain (OpenSpec.upto twoOpensSpec)) twoOpensUptoCard

/-- THE SECOND FORM's CARD OF 'firkinlaw20.BodyBlocks'. -/
def bodyBlocksUptoCard : Claim7 := { stood := { row := bodyBlocksUptoRow, standIns := [], harness := (true, "c72aa446f060dcd4b180fce9cfbf5b23bcc795995bdd20b1414f439a8434b3de"), looks := false }, kinds := [], alts := [], laidByText := true, laidKinds := [.data], laidTests := true, laidLooks := .later }
def BodyBlocksUptoCardSaid : Prop := Claim7.holds Tryz.pinned (.plain (OpenSpec.upto bodyBlocksSpec)) bodyBlocksUptoCard

/-- THE SECOND FORM's CARD OF 'firkinlaw20.BodyLogs'. -/
def bodyLogsUptoCard : Claim7 := { stood := { row := bodyLogsUptoRow, standIns := [], harness := (true, "c72aa446f060dcd4b180fce9cfbf5b23bcc795995bdd20b1414f439a8434b3de"), looks := false }, kinds := [], alts := [], laidByText := true, laidKinds := [.data], laidTests := true, laidLooks := .later }
def BodyLogsUptoCardSaid : Prop := Claim7.holds Tryz.pinned (.plain (OpenSpec.upto bodyLogsSpec)) bodyLogsUptoCard

/-- THE SECOND FORM's CARD OF 'firkinlaw20.BodyBack'. -/
def bodyBackUptoCard : Claim7 := { stood := { row := bodyBackUptoRow, standIns := [], harness := (true, "c72aa446f060dcd4b180fce9cfbf5b23bcc795995bdd20b1414f439a8434b3de"), looks := false }, kinds := [], alts := [], laidByText := true, laidKinds := [.data], laidTests := true, laidLooks := .later }
def BodyBackUptoCardSaid : Prop := Claim7.holds Tryz.pinned (.plain (OpenSpec.upto bodyBackSpec)) bodyBackUptoCard

/-- THE SECOND FORM's CARD OF 'firkinlaw20.BodyIndex'. -/
def bodyIndexUptoCard : Claim7 := { stood := { row := bodyIndexUptoRow, standIns := [], harness := (true, "c72aa446f060dcd4b180fce9cfbf5b23bcc795995bdd20b1414f439a8434b3de"), looks := false }, kinds := [], alts := [], laidByText := true, laidKinds := [.data], laidTests := true, laidLooks := .later }
def BodyIndexUptoCardSaid : Prop := Claim7.holds Tryz.pinned (.plain (OpenSpec.upto bodyIndexSpec)) bodyIndexUptoCard

/-- THE SECOND FORM's CARD OF 'firkinlaw20.BodyOpened'. -/
def bodyOpenedUptoCard : Claim7 := { stood := { row := bodyOpenedUptoRow, standIns := [], harness := (true, "c72aa446f060dcd4b180fce9cfbf5b23bcc795995bdd20b1414f439a8434b3de"), looks := false }, kinds := [], alts := [], laidByText := true, laidKinds := [.data], laidTests := true, laidLooks := .later }
def BodyOpenedUptoCardSaid : Prop := Claim7.holds Tryz.pinned (.plain (OpenSpec.upto bodyOpenedSpec)) bodyOpenedUptoCard

/-- THE SECOND FORM's CARD OF 'firkinlaw22.TwoUnpacks'. -/
def twoUnpacksUptoCard : Claim7 := { stood := { row := twoUnpacksUptoRow, standIns := [], harness := (true, "c72aa446f060dcd4b180fce9cfbf5b23bcc795995bdd20b1414f439a8434b3de"), looks := false }, kinds := [], alts := [], laidByText := true, laidKinds := [.data], laidTests := true, laidLooks := .later }
def TwoUnpacksUptoCardSaid : Prop := Claim7.holds Tryz.pinned (.plain (OpenSpec.upto twoUnpacksSpec)) twoUnpacksUptoCard

/-- THE SECOND FORM's CARD OF 'firkinlaw22.TwoBack'. -/
def twoBackUptoCard : Claim7 := { stood := { row := twoBackUptoRow, standIns := [], harness := (true, "c72aa446f060dcd4b180fce9cfbf5b23bcc795995bdd20b1414f439a8434b3de"), looks := false }, kinds := [], alts := [], laidByText := true, laidKinds := [.data], laidTests := true, laidLooks := .later }
def TwoBackUptoCardSaid : Prop := Claim7.holds Tryz.pinned (.plain (OpenSpec.upto twoBackSpec)) twoBackUptoCard
end Rows
end Go.Proofs.YtmgjgkdbagbleaaGreatDoor
