/-
  DERIVED. GIVEN WITH THE SEED: THE CARDS: each row of YtidclmmnfienlaaGreatDoorRows.lean that lists a variable, with what it lists TIED to the program's text (the seventh form; the later family's looks); each row that meets fmt, with fmt's text TOLD by the authors' own Lean function (tested against real Go, not proved from fmt's source: count such statements apart). THE CARD IS WHAT COUNTS. Prove the row's statement (the work); the ties are given (YtidclmmnfienlaaGreatDoorTie.lean); close each card by the builder's one call (the guide's Derived/Test/ToyasCard.lean, 'card_holds'). Laid BY PROGRAM, IN A SANDBOX (cutbox-door.mjs). By AI agents, Wed Nov 11 2026. No macro, syntax, notation, axiom, sorry.
-/
import Derived.Test.YtidclmmnfienlaaGreatDoorRows
import GoSem.ClaimSeven
namespace Go.Proofs.YtidclmmnfienlaaGreatDoor
namespace Rows

/-- THE TIED CARD OF 'firkinlaw21.OnePacks'. -/
def onePacksCard : Claim7 := { stood := { row := onePacksRow, standIns := [], harness := (true, "6c71587a93002e153cd4d1ccd1b0f7ba859de3450ee883120a23b000bb1c9d17"), looks := false }, kinds := [], alts := [], laidByText := true, laidKinds := [.data], laidTests := true, laidLooks := .later }
def OnePacksCardSaid : Prop := Claim7.holds Tryz.pinned (.plain (OpenSpec.ofChange onePacksSpec)) onePacksCard

/-- THE TIED CARD OF 'firkinlaw12.BlockTurned'. -/
def blockTurnedCard : Claim7 := { stood := { row := blockTurnedRow, standIns := [], harness := (true, "6c71587a93002e153cd4d1ccd1b0f7ba859de3450ee883120a23b000bb1c9d17"), looks := false }, kinds := [], alts := [], laidByText := true, laidKinds := [.data], laidTests := true, laidLooks := .later }
def BlockTurnedCardSaid : Prop := Claim7.holds Tryz.pinned (.plain (OpenSpec.ofChange blockTurnedSpec)) blockTurnedCard

/-- THE TIED CARD OF 'firkinlaw12.BlockReads'. -/
def blockReadsCard : Claim7 := { stood := { row := blockReadsRow, standIns := [], harness := (true, "6c71587a93002e153cd4d1ccd1b0f7ba859de3450ee883120a23b000bb1c9d17"), looks := false }, kinds := [], alts := [], laidByText := true, laidKinds := [.data], laidTests := true, laidLooks := .later }
def BlockReadsCardSaid : Prop := Claim7.holds Tryz.pinned (.plain (OpenSpec.ofChange blockReadsSpec)) blockReadsCard

/-- THE TIED CARD OF 'firkinlaw21.OneUnpacks'. -/
def oneUnpacksCard : Claim7 := { stood := { row := oneUnpacksRow, standIns := [], harness := (true, "6c71587a93002e153cd4d1ccd1b0f7ba859de3450ee883120a23b000bb1c9d17"), looks := false }, kinds := [], alts := [], laidByText := true, laidKinds := [.data], laidTests := true, laidLooks := .later }
def OneUnpacksCardSaid : Prop := Claim7.holds Tryz.pinned (.plain (OpenSpec.ofChange oneUnpacksSpec)) oneUnpacksCard

/-- THE TIED CARD OF 'firkinlaw21.OneBack'. -/
def oneBackCard : Claim7 := { stood := { row := oneBackRow, standIns := [], harness := (true, "6c71587a93002e153cd4d1ccd1b0f7ba859de3450ee883120a23b000bb1c9d17"), looks := false }, kinds := [], alts := [], laidByText := true, laidKinds := [.data], laidTests := true, laidLooks := .later }
def OneBackCardSaid : Prop := Claim7.holds Tryz.pinned (.plain (OpenSpec.ofChange oneBackSpec)) oneBackCard

/-- THE TIED CARD OF 'firkinlaw21.OneTurned'. -/
def oneTurnedCard : Claim7 := { stood := { row := oneTurnedRow, standIns := [], harness := (true, "6c71587a93002e153cd4d1ccd1b0f7ba859de3450ee883120a23b000bb1c9d17"), looks := false }, kinds := [], alts := [], laidByText := true, laidKinds := [.data], laidTests := true, laidLooks := .later }
def OneTurnedCardSaid : Prop := Claim7.holds Tryz.pinned (.plain (OpenSpec.ofChange oneTurnedSpec)) oneTurnedCard

/-- THE SECOND FORM's CARD OF 'firkinlaw21.OnePacks'. -/
def onePacksUptoCard : Claim7 := { stood := { row := onePacksUptoRow, standIns := [], harness := (true, "6c71587a93002e153cd4d1ccd1b0f7ba859de3450ee883120a23b000bb1c9d17"), looks := false }, kinds := [], alts := [], laidByText := true, laidKinds := [.data], laidTests := true, laidLooks := .later }
def OnePacksUptoCardSaid : Prop := Claim7.holds Tryz.pinned (.plain (OpenSpec.upto onePacksSpec)) onePacksUptoCard

/-- THE SECOND FORM's CARD OF 'firkinlaw12.BlockTurned'. -/
def blockTurnedUptoCard : Claim7 := { stood := { row := blockTurnedUptoRow, standIns := [], harness := (true, "6c71587a93002e153cd4d1ccd1b0f7ba859de3450ee883120a23b000bb1c9d17"), looks := false }, kinds := [], alts := [], laidByText := true, laidKinds := [.data], laidTests := true, laidLooks := .later }
def BlockTurnedUptoCardSaid : Prop := Claim7.holds Tryz.pinned (.plain (OpenSpec.upto blockTurnedSpec)) blockTurnedUptoCard

/-- THE SECOND FORM's CARD OF 'firkinlaw12.BlockReads'. -/
def blockReadsUptoCard : Claim7 := { stood := { row := blockReadsUptoRow, standIns := [], harness := (true, "6c71587a93002e153cd4d1ccd1b0f7ba859de3450ee883120a23b000bb1c9d17"), looks := false }, kinds := [], alts := [], laidByText := true, laidKinds := [.data], laidTests := true, laidLooks := .later }
def BlockReadsUptoCardSaid : Prop := Claim7.holds Tryz.pinned (.plain (OpenSpec.upto blockReadsSpec)) blockReadsUptoCard

/-- THE SECOND FORM's CARD OF 'firkinlaw21.OneUnpacks'. -/
def oneUnpacksUptoCard : Claim7 := { stood := { row := oneUnpacksUptoRow, standIns := [], harness := (true, "6c71587a93002e153cd4d1ccd1b0f7ba859de3450ee883120a23b000bb1c9d17"), looks := false }, kinds := [], alts := [], laidByText := true, laidKinds := [.data], laidTests := true, laidLooks := .later }
def OneUnpacksUptoCardSaid : Prop := Claim7.holds Tryz.pinned (.plain (OpenSpec.upto oneUnpacksSpec)) oneUnpacksUptoCard

/-- THE SECOND FORM's CARD OF 'firkinlaw21.OneBack'. -/
def oneBackUptoCard : Claim7 := { stood := { row := oneBackUptoRow, standIns := [], harness := (true, "6c71587a93002e153cd4d1ccd1b0f7ba859de3450ee883120a23b000bb1c9d17"), looks := false }, kinds := [], alts := [], laidByText := true, laidKinds := [.data], laidTests := true, laidLooks := .later }
def OneBackUptoCardSaid : Prop := Claim7.holds Tryz.pinned (.plain (OpenSpec.upto oneBackSpec)) oneBackUptoCard

/-- THE SECOND FORM's CARD OF 'firkinlaw21.OneTurned'. -/
def oneTurnedUptoCard : Claim7 := { stood := { row := oneTurnedUptoRow, standIns := [], harness := (true, "6c71587a93002e153cd4d1ccd1b0f7ba859de3450ee883120a23b000bb1c9d17"), looks := false }, kinds := [], alts := [], laidByText := true, laidKinds := [.data], laidTests := true, laidLooks := .later }
def OneTurnedUptoCardSaid : Prop := Claim7.holds Tryz.pinned (.plain (OpenSpec.upto oneTurnedSpec)) oneTurnedUptoCard
end Rows
end Go.Proofs.YtidclmmnfienlaaGreatDoor
