/-
  NARROWER THAN 'FOR EVERY INPUT', by the rows' own cells (each row's printed sentence says how): TwoOpens: laid · BodyBlocks: laid · BodyLogs: laid · BodyOpened: laid · TwoUnpacks: laid.
  DERIVED. THE GIVEN ROWS OF THIS SEAT. 5 by the template 'for every input the law returns true; each argument reads behind the call as it read before'; 0 by the template 'total and deterministic' (their statements: YtbgoibedicbkjaaGreatDoorTotals.lean).
  GIVEN WITH THE SEED: the statements are not yours to turn. If you find one false, say at which input.
  Laid BY PROGRAM, IN A SANDBOX (cutbox-rows.mjs): the forced cells as the released guide's own fill.sh prints them over the translation daa1e05d8faea5cb… (all of the seat's roots in one cut). By AI agents, Wed Nov 11 2026. No macro, syntax, notation, axiom, sorry.
-/
import Derived.Test.YtbgoibedicbkjaaGreatDoorChecked
import GoSem.Claim
import GoSem.ClaimJoined
import GoSem.ClaimMapViews
import Derived.JoinedTies
import Derived.KernelRfl
namespace Go.Proofs.YtbgoibedicbkjaaGreatDoor
/- THE CELL 'sum', in the pinned program and in every row, IS THE sha256 OF THE DUMP (.gsa) THAT YtbgoibedicbkjaaGreatDoorProg.lean LOADS. Nothing in Lean hashes anything: it is a label: what it is worth is what the hold of that sum in a sandbox is worth. -/
noncomputable def Tryz.pinned : Pinned := { name := "ytbgoibedicbkjaagreatdoor", sum := "daa1e05d8faea5cb9feabc4de02d47112aa690c51a36dae9cea409ac6087cb15", checked := Tryz.checked }
namespace Rows
def none {H : Type} : Left H := { results := [], args := [] }

/- WHAT THE LISTED PACKAGE-LEVEL VARIABLES READ AS WHEN THE CALL BEGINS. Each datum BY PROGRAM (the guide's laid-datum.mjs) off the statement by which the dump's own 'gosem.cut.vars' lays the variable. In a bare row this is a premise. The card (YtbgoibedicbkjaaGreatDoorCards.lean) ties it to the program's text. -/
def laid_firkin_crc_shifted {H : Type} : DataW H := .agg [.lit (.int .u32 0), .lit (.int .u32 498536548), .lit (.int .u32 997073096), .lit (.int .u32 651767980), .lit (.int .u32 1994146192), .lit (.int .u32 1802195444), .lit (.int .u32 1303535960), .lit (.int .u32 1342533948), .lit (.int .u32 3988292384), .lit (.int .u32 4027552580), .lit (.int .u32 3604390888), .lit (.int .u32 3412177804), .lit (.int .u32 2607071920), .lit (.int .u32 2262029012), .lit (.int .u32 2685067896), .lit (.int .u32 3183342108)]

/-- 'firkinlaw22.TwoOpens': WHATEVER THE INPUT: true; the input reads as it did. -/
def twoOpensSpec : ChangeSpec := { name := "twoOpens", fn := fun _ => fun
  | [d] => { results := [.lit (.bool true)], args := [d] }
  | _ => none }
def twoOpensRow : OpenClaim := { program := "ytbgoibedicbkjaagreatdoor", sum := "daa1e05d8faea5cb9feabc4de02d47112aa690c51a36dae9cea409ac6087cb15", func := "firkin/firkinlaw22.TwoOpens", spec := "twoOpens", unfollowed := true, recurses := true, named := ["firkin/crc.shifted"], plainKeys := false, apart := false, laid := [("firkin/crc.shifted", laid_firkin_crc_shifted)] }
def TwoOpensSaid : Prop := twoOpensRow.holds Tryz.pinned (OpenSpec.ofChange twoOpensSpec)

/-- ITS FALSE NEIGHBOUR: 'it returns false'. Refute it at one input. -/
def twoOpensWrong : ChangeSpec := { name := "twoOpens", fn := fun _ => fun
  | [d] => { results := [.lit (.bool false)], args := [d] }
  | _ => none }
def TwoOpensWrongFalsely : Prop := twoOpensRow.holds Tryz.pinned (OpenSpec.ofChange twoOpensWrong)

/-- 'firkinlaw20.BodyBlocks': WHATEVER THE INPUT: true; the input reads as it did. -/
def bodyBlocksSpec : ChangeSpec := { name := "bodyBlocks", fn := fun _ => fun
  | [d1, d2, d3] => { results := [.lit (.bool true)], args := [d1, d2, d3] }
  | _ => none }
def bodyBlocksRow : OpenClaim := { program := "ytbgoibedicbkjaagreatdoor", sum := "daa1e05d8faea5cb9feabc4de02d47112aa690c51a36dae9cea409ac6087cb15", func := "firkin/firkinlaw20.BodyBlocks", spec := "bodyBlocks", unfollowed := true, recurses := true, named := ["firkin/crc.shifted"], plainKeys := false, apart := false, laid := [("firkin/crc.shifted", laid_firkin_crc_shifted)] }
def BodyBlocksSaid : Prop := bodyBlocksRow.holds Tryz.pinned (OpenSpec.ofChange bodyBlocksSpec)

/-- ITS FALSE NEIGHBOUR: 'it returns false'. Refute it at one input. -/
def bodyBlocksWrong : ChangeSpec := { name := "bodyBlocks", fn := fun _ => fun
  | [d1, d2, d3] => { results := [.lit (.bool false)], args := [d1, d2, d3] }
  | _ => none }
def BodyBlocksWrongFalsely : Prop := bodyBlocksRow.holds Tryz.pinned (OpenSpec.ofChange bodyBlocksWrong)

/-- 'firkinlaw20.BodyLogs': WHATEVER THE INPUT: true; the input reads as it did. -/
def bodyLogsSpec : ChangeSpec := { name := "bodyLogs", fn := fun _ => fun
  | [d1, d2, d3] => { results := [.lit (.bool true)], args := [d1, d2, d3] }
  | _ => none }
def bodyLogsRow : OpenClaim := { program := "ytbgoibedicbkjaagreatdoor", sum := "daa1e05d8faea5cb9feabc4de02d47112aa690c51a36dae9cea409ac6087cb15", func := "firkin/firkinlaw20.BodyLogs", spec := "bodyLogs", unfollowed := true, recurses := true, named := ["firkin/crc.shifted"], plainKeys := false, apart := false, laid := [("firkin/crc.shifted", laid_firkin_crc_shifted)] }
def BodyLogsSaid : Prop := bodyLogsRow.holds Tryz.pinned (OpenSpec.ofChange bodyLogsSpec)

/-- ITS FALSE NEIGHBOUR: 'it returns false'. Refute it at one input. -/
def bodyLogsWrong : ChangeSpec := { name := "bodyLogs", fn := fun _ => fun
  | [d1, d2, d3] => { results := [.lit (.bool false)], args := [d1, d2, d3] }
  | _ => none }
def BodyLogsWrongFalsely : Prop := bodyLogsRow.holds Tryz.pinned (OpenSpec.ofChange bodyLogsWrong)

/-- 'firkinlaw20.BodyOpened': WHATEVER THE INPUT: true; the input reads as it did. -/
def bodyOpenedSpec : ChangeSpec := { name := "bodyOpened", fn := fun _ => fun
  | [d1, d2, d3] => { results := [.lit (.bool true)], args := [d1, d2, d3] }
  | _ => none }
def bodyOpenedRow : OpenClaim := { program := "ytbgoibedicbkjaagreatdoor", sum := "daa1e05d8faea5cb9feabc4de02d47112aa690c51a36dae9cea409ac6087cb15", func := "firkin/firkinlaw20.BodyOpened", spec := "bodyOpened", unfollowed := true, recurses := true, named := ["firkin/crc.shifted"], plainKeys := false, apart := false, laid := [("firkin/crc.shifted", laid_firkin_crc_shifted)] }
def BodyOpenedSaid : Prop := bodyOpenedRow.holds Tryz.pinned (OpenSpec.ofChange bodyOpenedSpec)

/-- ITS FALSE NEIGHBOUR: 'it returns false'. Refute it at one input. -/
def bodyOpenedWrong : ChangeSpec := { name := "bodyOpened", fn := fun _ => fun
  | [d1, d2, d3] => { results := [.lit (.bool false)], args := [d1, d2, d3] }
  | _ => none }
def BodyOpenedWrongFalsely : Prop := bodyOpenedRow.holds Tryz.pinned (OpenSpec.ofChange bodyOpenedWrong)

/-- 'firkinlaw22.TwoUnpacks': WHATEVER THE INPUT: true; the input reads as it did. -/
def twoUnpacksSpec : ChangeSpec := { name := "twoUnpacks", fn := fun _ => fun
  | [d] => { results := [.lit (.bool true)], args := [d] }
  | _ => none }
def twoUnpacksRow : OpenClaim := { program := "ytbgoibedicbkjaagreatdoor", sum := "daa1e05d8faea5cb9feabc4de02d47112aa690c51a36dae9cea409ac6087cb15", func := "firkin/firkinlaw22.TwoUnpacks", spec := "twoUnpacks", unfollowed := true, recurses := true, named := ["firkin/crc.shifted"], plainKeys := false, apart := false, laid := [("firkin/crc.shifted", laid_firkin_crc_shifted)] }
def TwoUnpacksSaid : Prop := twoUnpacksRow.holds Tryz.pinned (OpenSpec.ofChange twoUnpacksSpec)

/-- ITS FALSE NEIGHBOUR: 'it returns false'. Refute it at one input. -/
def twoUnpacksWrong : ChangeSpec := { name := "twoUnpacks", fn := fun _ => fun
  | [d] => { results := [.lit (.bool false)], args := [d] }
  | _ => none }
def TwoUnpacksWrongFalsely : Prop := twoUnpacksRow.holds Tryz.pinned (OpenSpec.ofChange twoUnpacksWrong)

/- THE SECOND FORM. 'bulk': how many values and letters a reading holds, each counted each time it is reached (what is shared counts as often as it is met; a slice's spare places count too). A statement '..UptoSaid' is the law's where the arguments, and the package variables that the reading takes, are together of bulk at most 1048576: NARROWER than '..Said'. Prove '..Said' where nothing that the law and all that it calls make is longer than what came in: it says more and counts as full. Else prove '..UptoSaid'. A law counts once. -/
mutual
def uptoBulk {H : Type} : DataW H → Nat
  | .lit (.string bytes) => bytes.length + 1
  | .lit _ => 1
  | .nil => 1
  | .ptr d => uptoBulk d + 1
  | .slice elems spare => uptoBulkAll elems + uptoBulkAll spare + 1
  | .agg parts => uptoBulkAll parts + 1
  | .iface _ d => uptoBulk d + 1
  | .map entries => uptoBulkEntries entries + 1
  | .held _ => 1
def uptoBulkAll {H : Type} : List (DataW H) → Nat
  | [] => 0
  | d :: r => uptoBulk d + uptoBulkAll r
def uptoBulkEntries {H : Type} : List (Lit × DataW H) → Nat
  | [] => 0
  | x :: r => uptoBulkEntry x + uptoBulkEntries r
def uptoBulkEntry {H : Type} : Lit × DataW H → Nat
  | (.string bytes, d) => bytes.length + uptoBulk d + 1
  | (_, d) => uptoBulk d + 1
 end
def uptoSmall : (H : Type) → List (DataW H) → Bool := fun _ ds => decide (uptoBulkAll ds ≤ 1048576)
def OpenSpec.upto (s : _root_.Go.ChangeSpec) : _root_.Go.OpenSpec := { _root_.Go.OpenSpec.ofChange s with cond := some uptoSmall }

/-- 'firkinlaw22.TwoOpens', WHERE WHAT IT READS IS OF BULK AT MOST 1048576: true; the input reads as it did. -/
def twoOpensUptoRow : OpenClaim := { program := "ytbgoibedicbkjaagreatdoor", sum := "daa1e05d8faea5cb9feabc4de02d47112aa690c51a36dae9cea409ac6087cb15", func := "firkin/firkinlaw22.TwoOpens", spec := "twoOpens", unfollowed := true, recurses := true, named := ["firkin/crc.shifted"], plainKeys := false, apart := false, laid := [("firkin/crc.shifted", laid_firkin_crc_shifted)], narrowed := true }
def TwoOpensUptoSaid : Prop := twoOpensUptoRow.holds Tryz.pinned (OpenSpec.upto twoOpensSpec)

/-- 'firkinlaw20.BodyBlocks', WHERE WHAT IT READS IS OF BULK AT MOST 1048576: true; the input reads as it did. -/
def bodyBlocksUptoRow : OpenClaim := { program := "ytbgoibedicbkjaagreatdoor", sum := "daa1e05d8faea5cb9feabc4de02d47112aa690c51a36dae9cea409ac6087cb15", func := "firkin/firkinlaw20.BodyBlocks", spec := "bodyBlocks", unfollowed := true, recurses := true, named := ["firkin/crc.shifted"], plainKeys := false, apart := false, laid := [("firkin/crc.shifted", laid_firkin_crc_shifted)], narrowed := true }
def BodyBlocksUptoSaid : Prop := bodyBlocksUptoRow.holds Tryz.pinned (OpenSpec.upto bodyBlocksSpec)

/-- 'firkinlaw20.BodyLogs', WHERE WHAT IT READS IS OF BULK AT MOST 1048576: true; the input reads as it did. -/
def bodyLogsUptoRow : OpenClaim := { program := "ytbgoibedicbkjaagreatdoor", sum := "daa1e05d8faea5cb9feabc4de02d47112aa690c51a36dae9cea409ac6087cb15", func := "firkin/firkinlaw20.BodyLogs", spec := "bodyLogs", unfollowed := true, recurses := true, named := ["firkin/crc.shifted"], plainKeys := false, apart := false, laid := [("firkin/crc.shifted", laid_firkin_crc_shifted)], narrowed := true }
def BodyLogsUptoSaid : Prop := bodyLogsUptoRow.holds Tryz.pinned (OpenSpec.upto bodyLogsSpec)

/-- 'firkinlaw20.BodyOpened', WHERE WHAT IT READS IS OF BULK AT MOST 1048576: true; the input reads as it did. -/
def bodyOpenedUptoRow : OpenClaim := { program := "ytbgoibedicbkjaagreatdoor", sum := "daa1e05d8faea5cb9feabc4de02d47112aa690c51a36dae9cea409ac6087cb15", func := "firkin/firkinlaw20.BodyOpened", spec := "bodyOpened", unfollowed := true, recurses := true, named := ["firkin/crc.shifted"], plainKeys := false, apart := false, laid := [("firkin/crc.shifted", laid_firkin_crc_shifted)], narrowed := true }
def BodyOpenedUptoSaid : Prop := bodyOpenedUptoRow.holds Tryz.pinned (OpenSpec.upto bodyOpenedSpec)

/-- 'firkinlaw22.TwoUnpacks', WHERE WHAT IT READS IS OF BULK AT MOST 1048576: true; the input reads as it did. -/
def twoUnpacksUptoRow : OpenClaim := { program := "ytbgoibedicbkjaagreatdoor", sum := "daa1e05d8faea5cb9feabc4de02d47112aa690c51a36dae9cea409ac6087cb15", func := "firkin/firkinlaw22.TwoUnpacks", spec := "twoUnpacks", unfollowed := true, recurses := true, named := ["firkin/crc.shifted"], plainKeys := false, apart := false, laid := [("firkin/crc.shifted", laid_firkin_crc_shifted)], narrowed := true }
def TwoUnpacksUptoSaid : Prop := twoUnpacksUptoRow.holds Tryz.pinned (OpenSpec.upto twoUnpacksSpec)

end Rows
end Go.Proofs.YtbgoibedicbkjaaGreatDoor
