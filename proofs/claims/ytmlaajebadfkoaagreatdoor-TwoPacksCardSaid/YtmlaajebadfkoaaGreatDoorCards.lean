/-
  DERIVED. GIVEN WITH THE SEED: THE CARDS: each row of YtmlaajebadfkoaaGreatDoorRows.lean that lists a variable, with what it lists TIED to the program's text (the seventh form; the later family's looks); each row that meets fmt, with fmt's text TOLD by the authors' own Lean function (tested against real Go, not proved from fmt's source: count such statements apart). THE CARD IS WHAT COUNTS. Prove the row's statement (the work); the ties are given (YtmlaajebadfkoaaGreatDoorTie.lean); close each card by the builder's one call (the guide's Derived/Test/ToyasCard.lean, 'card_holds'). Laid BY PROGRAM, IN A SANDBOX (cutbox-door.mjs). By AI agents, Wed Nov 11 2026. No macro, syntax, notation, axiom, sorry.
-/
import Derived.Test.YtmlaajebadfkoaaGreatDoorRows
import GoSem.ClaimSeven
namespace Go.Proofs.YtmlaajebadfkoaaGreatDoor
namespace Rows

/-- THE TIED CARD OF 'firkinlaw22.TwoPacks'. -/
def twoPacksCard : Claim7 := { stood := { row := twoPacksRow, standIns := [], harness := (true, "6e277ac5a5256b299fac611252a4b9dc6aa3e3942da579c6d872bbb033cd01f5"), looks := false }, kinds := [], alts := [], laidByText := true, laidKinds := [.data], laidTests := true, laidLooks := .later }
def TwoPacksCardSaid : Prop := Claim7.holds Tryz.pinned (.plain (OpenSpec.ofChange twoPacksSpec)) twoPacksCard

/-- THE TIED CARD OF 'firkinlaw20.BodyOpens'. -/
def bodyOpensCard : Claim7 := { stood := { row := bodyOpensRow, standIns := [], harness := (true, "6e277ac5a5256b299fac611252a4b9dc6aa3e3942da579c6d872bbb033cd01f5"), looks := false }, kinds := [], alts := [], laidByText := true, laidKinds := [.data], laidTests := true, laidLooks := .later }
def BodyOpensCardSaid : Prop := Claim7.holds Tryz.pinned (.plain (OpenSpec.ofChange bodyOpensSpec)) bodyOpensCard

/-- THE TIED CARD OF 'firkinlaw22.TwoOpens'. -/
def twoOpensCard : Claim7 := { stood := { row := twoOpensRow, standIns := [], harness := (true, "6e277ac5a5256b299fac611252a4b9dc6aa3e3942da579c6d872bbb033cd01f5"), looks := false }, kinds := [], alts := [], laidByText := true, laidKinds := [.data], laidTests := true, laidLooks := .later }
def TwoOpensCardSaid : Prop := Claim7.holds Tryz.pinned (.plain (OpenSpec.ofChange twoOpensSpec)) twoOpensCard

/-- THE TIED CARD OF 'firkinlaw20.BodyLogs'. -/
def bodyLogsCard : Claim7 := { stood := { row := bodyLogsRow, standIns := [], harness := (true, "6e277ac5a5256b299fac611252a4b9dc6aa3e3942da579c6d872bbb033cd01f5"), looks := false }, kinds := [], alts := [], laidByText := true, laidKinds := [.data], laidTests := true, laidLooks := .later }
def BodyLogsCardSaid : Prop := Claim7.holds Tryz.pinned (.plain (OpenSpec.ofChange bodyLogsSpec)) bodyLogsCard

/-- THE SECOND FORM's CARD OF 'firkinlaw22.TwoPacks'. -/
def twoPacksUptoCard : Claim7 := { stood := { row := twoPacksUptoRow, standIns := [], harness := (true, "6e277ac5a5256b299fac611252a4b9dc6aa3e3942da579c6d872bbb033cd01f5"), looks := false }, kinds := [], alts := [], laidByText := true, laidKinds := [.data], laidTests := true, laidLooks := .later }
def TwoPacksUptoCardSaid : Prop := Claim7.holds Tryz.pinned (.plain (OpenSpec.upto twoPacksSpec)) twoPacksUptoCard

/-- THE SECOND FORM's CARD OF 'firkinlaw20.BodyOpens'. -/
def bodyOpensUptoCard : Claim7 := { stood := { row := bodyOpensUptoRow, standIns := [], harness := (true, "6e277ac5a5256b299fac611252a4b9dc6aa3e3942da579c6d872bbb033cd01f5"), looks := false }, kinds := [], alts := [], laidByText := true, laidKinds := [.data], laidTests := true, laidLooks := .later }
def BodyOpensUptoCardSaid : Prop := Claim7.holds Tryz.pinned (.plain (OpenSpec.upto bodyOpensSpec)) bodyOpensUptoCard

/-- THE SECOND FORM's CARD OF 'firkinlaw22.TwoOpens'. -/
def twoOpensUptoCard : Claim7 := { stood := { row := twoOpensUptoRow, standIns := [], harness := (true, "6e277ac5a5256b299fac611252a4b9dc6aa3e3942da579c6d872bbb033cd01f5"), looks := false }, kinds := [], alts := [], laidByText := true, laidKinds := [.data], laidTests := true, laidLooks := .later }
def TwoOpensUptoCardSaid : Prop := Claim7.holds Tryz.pinned (.plain (OpenSpec.upto twoOpensSpec)) twoOpensUptoCard

/-- THE SECOND FORM's CARD OF 'firkinlaw20.BodyLogs'. -/
def bodyLogsUptoCard : Claim7 := { stood := { row := bodyLogsUptoRow, standIns := [], harness := (true, "6e277ac5a5256b299fac611252a4b9dc6aa3e3942da579c6d872bbb033cd01f5"), looks := false }, kinds := [], alts := [], laidByText := true, laidKinds := [.data], laidTests := true, laidLooks := .later }
def BodyLogsUptoCardSaid : Prop := Claim7.holds Tryz.pinned (.plain (OpenSpec.upto bodyLogsSpec)) bodyLogsUptoCard
end Rows
end Go.Proofs.YtmlaajebadfkoaaGreatDoor
