/-
  DERIVED. GIVEN WITH THE SEED: THE CARDS: each row of YtfgdoknipbpfhaaGreatDoorRows.lean that lists a variable, with what it lists TIED to the program's text (the seventh form; the later family's looks); each row that meets fmt, with fmt's text TOLD by the authors' own Lean function (tested against real Go, not proved from fmt's source: count such statements apart). THE CARD IS WHAT COUNTS. Prove the row's statement (the work); the ties are given (YtfgdoknipbpfhaaGreatDoorTie.lean); close each card by the builder's one call (the guide's Derived/Test/ToyasCard.lean, 'card_holds'). Laid BY PROGRAM, IN A SANDBOX (cutbox-door.mjs). By AI agents, Wed Nov 11 2026. No macro, syntax, notation, axiom, sorry.
-/
import Derived.Test.YtfgdoknipbpfhaaGreatDoorRows
import GoSem.ClaimSeven
namespace Go.Proofs.YtfgdoknipbpfhaaGreatDoor
namespace Rows

/-- THE TIED CARD OF 'firkinlaw20.BodyBlocks'. -/
def bodyBlocksCard : Claim7 := { stood := { row := bodyBlocksRow, standIns := [], harness := (true, "0f264bfd106c4f20364da291ebc86afdc8166c318542d60f45645406460657ae"), looks := false }, kinds := [], alts := [], laidByText := true, laidKinds := [.data], laidTests := true, laidLooks := .later }
def BodyBlocksCardSaid : Prop := Claim7.holds Tryz.pinned (.plain (OpenSpec.ofChange bodyBlocksSpec)) bodyBlocksCard

/-- THE TIED CARD OF 'firkinlaw20.BodyBack'. -/
def bodyBackCard : Claim7 := { stood := { row := bodyBackRow, standIns := [], harness := (true, "0f264bfd106c4f20364da291ebc86afdc8166c318542d60f45645406460657ae"), looks := false }, kinds := [], alts := [], laidByText := true, laidKinds := [.data], laidTests := true, laidLooks := .later }
def BodyBackCardSaid : Prop := Claim7.holds Tryz.pinned (.plain (OpenSpec.ofChange bodyBackSpec)) bodyBackCard

/-- THE TIED CARD OF 'firkinlaw20.BodyIndex'. -/
def bodyIndexCard : Claim7 := { stood := { row := bodyIndexRow, standIns := [], harness := (true, "0f264bfd106c4f20364da291ebc86afdc8166c318542d60f45645406460657ae"), looks := false }, kinds := [], alts := [], laidByText := true, laidKinds := [.data], laidTests := true, laidLooks := .later }
def BodyIndexCardSaid : Prop := Claim7.holds Tryz.pinned (.plain (OpenSpec.ofChange bodyIndexSpec)) bodyIndexCard

/-- THE TIED CARD OF 'firkinlaw36.DiffBetween'. -/
def diffBetweenCard : Claim7 := { stood := { row := diffBetweenRow, standIns := [], harness := (true, "0f264bfd106c4f20364da291ebc86afdc8166c318542d60f45645406460657ae"), looks := false }, kinds := [], alts := [], laidByText := true, laidKinds := [.data], laidTests := true, laidLooks := .later }
def DiffBetweenCardSaid : Prop := Claim7.holds Tryz.pinned (.plain (OpenSpec.ofChange diffBetweenSpec)) diffBetweenCard

/-- THE TIED CARD OF 'firkinlaw20.BodyOpened'. -/
def bodyOpenedCard : Claim7 := { stood := { row := bodyOpenedRow, standIns := [], harness := (true, "0f264bfd106c4f20364da291ebc86afdc8166c318542d60f45645406460657ae"), looks := false }, kinds := [], alts := [], laidByText := true, laidKinds := [.data], laidTests := true, laidLooks := .later }
def BodyOpenedCardSaid : Prop := Claim7.holds Tryz.pinned (.plain (OpenSpec.ofChange bodyOpenedSpec)) bodyOpenedCard

/-- THE TIED CARD OF 'firkinlaw22.TwoUnpacks'. -/
def twoUnpacksCard : Claim7 := { stood := { row := twoUnpacksRow, standIns := [], harness := (true, "0f264bfd106c4f20364da291ebc86afdc8166c318542d60f45645406460657ae"), looks := false }, kinds := [], alts := [], laidByText := true, laidKinds := [.data], laidTests := true, laidLooks := .later }
def TwoUnpacksCardSaid : Prop := Claim7.holds Tryz.pinned (.plain (OpenSpec.ofChange twoUnpacksSpec)) twoUnpacksCard

/-- THE TIED CARD OF 'firkinlaw22.TwoBack'. -/
def twoBackCard : Claim7 := { stood := { row := twoBackRow, standIns := [], harness := (true, "0f264bfd106c4f20364da291ebc86afdc8166c318542d60f45645406460657ae"), looks := false }, kinds := [], alts := [], laidByText := true, laidKinds := [.data], laidTests := true, laidLooks := .later }
def TwoBackCardSaid : Prop := Claim7.holds Tryz.pinned (.plain (OpenSpec.ofChange twoBackSpec)) twoBackCard

/-- THE SECOND FORM's CARD OF 'firkinlaw20.BodyBlocks'. -/
def bodyBlocksUptoCard : Claim7 := { stood := { row := bodyBlocksUptoRow, standIns := [], harness := (true, "0f264bfd106c4f20364da291ebc86afdc8166c318542d60f45645406460657ae"), looks := false }, kinds := [], alts := [], laidByText := true, laidKinds := [.data], laidTests := true, laidLooks := .later }
def BodyBlocksUptoCardSaid : Prop := Claim7.holds Tryz.pinned (.plain (OpenSpec.upto bodyBlocksSpec)) bodyBlocksUptoCard

/-- THE SECOND FORM's CARD OF 'firkinlaw20.BodyBack'. -/
def bodyBackUptoCard : Claim7 := { stood := { row := bodyBackUptoRow, standIns := [], harness := (true, "0f264bfd106c4f20364da291ebc86afdc8166c318542d60f45645406460657ae"), looks := false }, kinds := [], alts := [], laidByText := true, laidKinds := [.data], laidTests := true, laidLooks := .later }
def BodyBackUptoCardSaid : Prop := Claim7.holds Tryz.pinned (.plain (OpenSpec.upto bodyBackSpec)) bodyBackUptoCard

/-- THE SECOND FORM's CARD OF 'firkinlaw20.BodyIndex'. -/
def bodyIndexUptoCard : Claim7 := { stood := { row := bodyIndexUptoRow, standIns := [], harness := (true, "0f264bfd106c4f20364da291ebc86afdc8166c318542d60f45645406460657ae"), looks := false }, kinds := [], alts := [], laidByText := true, laidKinds := [.data], laidTests := true, laidLooks := .later }
def BodyIndexUptoCardSaid : Prop := Claim7.holds Tryz.pinned (.plain (OpenSpec.upto bodyIndexSpec)) bodyIndexUptoCard

/-- THE SECOND FORM's CARD OF 'firkinlaw36.DiffBetween'. -/
def diffBetweenUptoCard : Claim7 := { stood := { row := diffBetweenUptoRow, standIns := [], harness := (true, "0f264bfd106c4f20364da291ebc86afdc8166c318542d60f45645406460657ae"), looks := false }, kinds := [], alts := [], laidByText := true, laidKinds := [.data], laidTests := true, laidLooks := .later }
def DiffBetweenUptoCardSaid : Prop := Claim7.holds Tryz.pinned (.plain (OpenSpec.upto diffBetweenSpec)) diffBetweenUptoCard

/-- THE SECOND FORM's CARD OF 'firkinlaw20.BodyOpened'. -/
def bodyOpenedUptoCard : Claim7 := { stood := { row := bodyOpenedUptoRow, standIns := [], harness := (true, "0f264bfd106c4f20364da291ebc86afdc8166c318542d60f45645406460657ae"), looks := false }, kinds := [], alts := [], laidByText := true, laidKinds := [.data], laidTests := true, laidLooks := .later }
def BodyOpenedUptoCardSaid : Prop := Claim7.holds Tryz.pinned (.plain (OpenSpec.upto bodyOpenedSpec)) bodyOpenedUptoCard

/-- THE SECOND FORM's CARD OF 'firkinlaw22.TwoUnpacks'. -/
def twoUnpacksUptoCard : Claim7 := { stood := { row := twoUnpacksUptoRow, standIns := [], harness := (true, "0f264bfd106c4f20364da291ebc86afdc8166c318542d60f45645406460657ae"), looks := false }, kinds := [], alts := [], laidByText := true, laidKinds := [.data], laidTests := true, laidLooks := .later }
def TwoUnpacksUptoCardSaid : Prop := Claim7.holds Tryz.pinned (.plain (OpenSpec.upto twoUnpacksSpec)) twoUnpacksUptoCard

/-- THE SECOND FORM's CARD OF 'firkinlaw22.TwoBack'. -/
def twoBackUptoCard : Claim7 := { stood := { row := twoBackUptoRow, standIns := [], harness := (true, "0f264bfd106c4f20364da291ebc86afdc8166c318542d60f45645406460657ae"), looks := false }, kinds := [], alts := [], laidByText := true, laidKinds := [.data], laidTests := true, laidLooks := .later }
def TwoBackUptoCardSaid : Prop := Claim7.holds Tryz.pinned (.plain (OpenSpec.upto twoBackSpec)) twoBackUptoCard
end Rows
end Go.Proofs.YtfgdoknipbpfhaaGreatDoor
