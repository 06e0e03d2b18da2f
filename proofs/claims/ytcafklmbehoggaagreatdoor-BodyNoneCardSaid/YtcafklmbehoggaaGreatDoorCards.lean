/-
  DERIVED. GIVEN WITH THE SEED: THE CARDS: each row of YtcafklmbehoggaaGreatDoorRows.lean that lists a variable, with what it lists TIED to the program's text (the seventh form; the later family's looks); each row that meets fmt, with fmt's text TOLD by the authors' own Lean function (tested against real Go, not proved from fmt's source: count such statements apart). THE CARD IS WHAT COUNTS. Prove the row's statement (the work); the ties are given (YtcafklmbehoggaaGreatDoorTie.lean); close each card by the builder's one call (the guide's Derived/Test/ToyasCard.lean, 'card_holds'). Laid BY PROGRAM, IN A SANDBOX (cutbox-door.mjs). By AI agents, Wed Nov 11 2026. No macro, syntax, notation, axiom, sorry.
-/
import Derived.Test.YtcafklmbehoggaaGreatDoorRows
import GoSem.ClaimSeven
namespace Go.Proofs.YtcafklmbehoggaaGreatDoor
namespace Rows

/-- THE TIED CARD OF 'firkinlaw20.BodyMakes'. -/
def bodyMakesCard : Claim7 := { stood := { row := bodyMakesRow, standIns := [], harness := (true, "33c30f8576a4f8f74695319595282aabf304fc9dedcbf85fa5d20754d390f551"), looks := false }, kinds := [], alts := [], laidByText := true, laidKinds := [.data], laidTests := true, laidLooks := .later }
def BodyMakesCardSaid : Prop := Claim7.holds Tryz.pinned (.plain (OpenSpec.ofChange bodyMakesSpec)) bodyMakesCard

/-- THE TIED CARD OF 'firkinlaw22.TwoPacks'. -/
def twoPacksCard : Claim7 := { stood := { row := twoPacksRow, standIns := [], harness := (true, "33c30f8576a4f8f74695319595282aabf304fc9dedcbf85fa5d20754d390f551"), looks := false }, kinds := [], alts := [], laidByText := true, laidKinds := [.data], laidTests := true, laidLooks := .later }
def TwoPacksCardSaid : Prop := Claim7.holds Tryz.pinned (.plain (OpenSpec.ofChange twoPacksSpec)) twoPacksCard

/-- THE TIED CARD OF 'firkinlaw20.BodyNone'. -/
def bodyNoneCard : Claim7 := { stood := { row := bodyNoneRow, standIns := [], harness := (true, "33c30f8576a4f8f74695319595282aabf304fc9dedcbf85fa5d20754d390f551"), looks := false }, kinds := [], alts := [], laidByText := true, laidKinds := [.data], laidTests := true, laidLooks := .later }
def BodyNoneCardSaid : Prop := Claim7.holds Tryz.pinned (.plain (OpenSpec.ofChange bodyNoneSpec)) bodyNoneCard

/-- THE TIED CARD OF 'firkinlaw20.BodyOpens'. -/
def bodyOpensCard : Claim7 := { stood := { row := bodyOpensRow, standIns := [], harness := (true, "33c30f8576a4f8f74695319595282aabf304fc9dedcbf85fa5d20754d390f551"), looks := false }, kinds := [], alts := [], laidByText := true, laidKinds := [.data], laidTests := true, laidLooks := .later }
def BodyOpensCardSaid : Prop := Claim7.holds Tryz.pinned (.plain (OpenSpec.ofChange bodyOpensSpec)) bodyOpensCard

/-- THE SECOND FORM's CARD OF 'firkinlaw20.BodyMakes'. -/
def bodyMakesUptoCard : Claim7 := { stood := { row := bodyMakesUptoRow, standIns := [], harness := (true, "33c30f8576a4f8f74695319595282aabf304fc9dedcbf85fa5d20754d390f551"), looks := false }, kinds := [], alts := [], laidByText := true, laidKinds := [.data], laidTests := true, laidLooks := .later }
def BodyMakesUptoCardSaid : Prop := Claim7.holds Tryz.pinned (.plain (OpenSpec.upto bodyMakesSpec)) bodyMakesUptoCard

/-- THE SECOND FORM's CARD OF 'firkinlaw22.TwoPacks'. -/
def twoPacksUptoCard : Claim7 := { stood := { row := twoPacksUptoRow, standIns := [], harness := (true, "33c30f8576a4f8f74695319595282aabf304fc9dedcbf85fa5d20754d390f551"), looks := false }, kinds := [], alts := [], laidByText := true, laidKinds := [.data], laidTests := true, laidLooks := .later }
def TwoPacksUptoCardSaid : Prop := Claim7.holds Tryz.pinned (.plain (OpenSpec.upto twoPacksSpec)) twoPacksUptoCard

/-- THE SECOND FORM's CARD OF 'firkinlaw20.BodyNone'. -/
def bodyNoneUptoCard : Claim7 := { stood := { row := bodyNoneUptoRow, standIns := [], harness := (true, "33c30f8576a4f8f74695319595282aabf304fc9dedcbf85fa5d20754d390f551"), looks := false }, kinds := [], alts := [], laidByText := true, laidKinds := [.data], laidTests := true, laidLooks := .later }
def BodyNoneUptoCardSaid : Prop := Claim7.holds Tryz.pinned (.plain (OpenSpec.upto bodyNoneSpec)) bodyNoneUptoCard

/-- THE SECOND FORM's CARD OF 'firkinlaw20.BodyOpens'. -/
def bodyOpensUptoCard : Claim7 := { stood := { row := bodyOpensUptoRow, standIns := [], harness := (true, "33c30f8576a4f8f74695319595282aabf304fc9dedcbf85fa5d20754d390f551"), looks := false }, kinds := [], alts := [], laidByText := true, laidKinds := [.data], laidTests := true, laidLooks := .later }
def BodyOpensUptoCardSaid : Prop := Claim7.holds Tryz.pinned (.plain (OpenSpec.upto bodyOpensSpec)) bodyOpensUptoCard
end Rows
end Go.Proofs.YtcafklmbehoggaaGreatDoor
