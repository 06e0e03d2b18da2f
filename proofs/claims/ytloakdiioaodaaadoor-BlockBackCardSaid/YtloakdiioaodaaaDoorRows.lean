/-
  NARROWER THAN 'FOR EVERY INPUT', by the rows' own cells (each row's printed sentence says how): BlockWrites: laid · BlockBack: laid · BlockCut: laid · BlockBounds: laid.
  DERIVED. THE GIVEN ROWS OF THIS SEAT. 4 by the template 'for every input the law returns true; each argument reads behind the call as it read before'; 0 by the template 'total and deterministic' (their statements: YtloakdiioaodaaaDoorTotals.lean).
  GIVEN WITH THE SEED: the statements are not yours to turn. If you find one false, say at which input.
  Laid BY PROGRAM, IN A SANDBOX (cutbox-rows.mjs): the forced cells as the released guide's own fill.sh prints them over the translation b5bb2b363d8b2b55… (all of the seat's roots in one cut). By AI agents, Wed Nov 11 2026. No macro, syntax, notation, axiom, sorry.
-/
import Derived.Test.YtloakdiioaodaaaDoorChecked
import GoSem.Claim
import GoSem.ClaimJoined
import GoSem.ClaimMapViews
import Derived.JoinedTies
import Derived.KernelRfl
namespace Go.Proofs.YtloakdiioaodaaaDoor
/- THE CELL 'sum', in the pinned program and in every row, IS THE sha256 OF THE DUMP (.gsa) THAT YtloakdiioaodaaaDoorProg.lean LOADS. Nothing in Lean hashes anything: it is a label: what it is worth is what the hold of that sum in a sandbox is worth. -/
noncomputable def Tryd.pinned : Pinned := { name := "ytloakdiioaodaaadoor", sum := "b5bb2b363d8b2b55dbd408858ab10689ab102d03738fd0037073cc3d96a911af", checked := Tryd.checked }
namespace Rows
def none {H : Type} : Left H := { results := [], args := [] }

/- WHAT THE LISTED PACKAGE-LEVEL VARIABLES READ AS WHEN THE CALL BEGINS. Each datum BY PROGRAM (the guide's laid-datum.mjs) off the statement by which the dump's own 'gosem.cut.vars' lays the variable. In a bare row this is a premise. The card (YtloakdiioaodaaaDoorCards.lean) ties it to the program's text. -/
def laid_firkin_crc_shifted {H : Type} : DataW H := .agg [.lit (.int .u32 0), .lit (.int .u32 498536548), .lit (.int .u32 997073096), .lit (.int .u32 651767980), .lit (.int .u32 1994146192), .lit (.int .u32 1802195444), .lit (.int .u32 1303535960), .lit (.int .u32 1342533948), .lit (.int .u32 3988292384), .lit (.int .u32 4027552580), .lit (.int .u32 3604390888), .lit (.int .u32 3412177804), .lit (.int .u32 2607071920), .lit (.int .u32 2262029012), .lit (.int .u32 2685067896), .lit (.int .u32 3183342108)]

/-- 'firkinlaw12.BlockWrites': WHATEVER THE INPUT: true; the input reads as it did. -/
def blockWritesSpec : ChangeSpec := { name := "blockWrites", fn := fun _ => fun
  | [d1, d2] => { results := [.lit (.bool true)], args := [d1, d2] }
  | _ => none }
def blockWritesRow : OpenClaim := { program := "ytloakdiioaodaaadoor", sum := "b5bb2b363d8b2b55dbd408858ab10689ab102d03738fd0037073cc3d96a911af", func := "firkin/firkinlaw12.BlockWrites", spec := "blockWrites", unfollowed := true, recurses := true, named := ["firkin/crc.shifted"], plainKeys := false, apart := false, laid := [("firkin/crc.shifted", laid_firkin_crc_shifted)] }
def BlockWritesSaid : Prop := blockWritesRow.holds Tryd.pinned (OpenSpec.ofChange blockWritesSpec)

/-- ITS FALSE NEIGHBOUR: 'it returns false'. Refute it at one input. -/
def blockWritesWrong : ChangeSpec := { name := "blockWrites", fn := fun _ => fun
  | [d1, d2] => { results := [.lit (.bool false)], args := [d1, d2] }
  | _ => none }
def BlockWritesWrongFalsely : Prop := blockWritesRow.holds Tryd.pinned (OpenSpec.ofChange blockWritesWrong)

/-- 'firkinlaw12.BlockBack': WHATEVER THE INPUT: true; the input reads as it did. -/
def blockBackSpec : ChangeSpec := { name := "blockBack", fn := fun _ => fun
  | [d1, d2, d3] => { results := [.lit (.bool true)], args := [d1, d2, d3] }
  | _ => none }
def blockBackRow : OpenClaim := { program := "ytloakdiioaodaaadoor", sum := "b5bb2b363d8b2b55dbd408858ab10689ab102d03738fd0037073cc3d96a911af", func := "firkin/firkinlaw12.BlockBack", spec := "blockBack", unfollowed := true, recurses := true, named := ["firkin/crc.shifted"], plainKeys := false, apart := false, laid := [("firkin/crc.shifted", laid_firkin_crc_shifted)] }
def BlockBackSaid : Prop := blockBackRow.holds Tryd.pinned (OpenSpec.ofChange blockBackSpec)

/-- ITS FALSE NEIGHBOUR: 'it returns false'. Refute it at one input. -/
def blockBackWrong : ChangeSpec := { name := "blockBack", fn := fun _ => fun
  | [d1, d2, d3] => { results := [.lit (.bool false)], args := [d1, d2, d3] }
  | _ => none }
def BlockBackWrongFalsely : Prop := blockBackRow.holds Tryd.pinned (OpenSpec.ofChange blockBackWrong)

/-- 'firkinlaw12.BlockCut': WHATEVER THE INPUT: true; the input reads as it did. -/
def blockCutSpec : ChangeSpec := { name := "blockCut", fn := fun _ => fun
  | [d1, d2, d3] => { results := [.lit (.bool true)], args := [d1, d2, d3] }
  | _ => none }
def blockCutRow : OpenClaim := { program := "ytloakdiioaodaaadoor", sum := "b5bb2b363d8b2b55dbd408858ab10689ab102d03738fd0037073cc3d96a911af", func := "firkin/firkinlaw12.BlockCut", spec := "blockCut", unfollowed := true, recurses := true, named := ["firkin/crc.shifted"], plainKeys := false, apart := false, laid := [("firkin/crc.shifted", laid_firkin_crc_shifted)] }
def BlockCutSaid : Prop := blockCutRow.holds Tryd.pinned (OpenSpec.ofChange blockCutSpec)

/-- ITS FALSE NEIGHBOUR: 'it returns false'. Refute it at one input. -/
def blockCutWrong : ChangeSpec := { name := "blockCut", fn := fun _ => fun
  | [d1, d2, d3] => { results := [.lit (.bool false)], args := [d1, d2, d3] }
  | _ => none }
def BlockCutWrongFalsely : Prop := blockCutRow.holds Tryd.pinned (OpenSpec.ofChange blockCutWrong)

/-- 'firkinlaw12.BlockBounds': WHATEVER THE INPUT: true; the input reads as it did. -/
def blockBoundsSpec : ChangeSpec := { name := "blockBounds", fn := fun _ => fun
  | [d] => { results := [.lit (.bool true)], args := [d] }
  | _ => none }
def blockBoundsRow : OpenClaim := { program := "ytloakdiioaodaaadoor", sum := "b5bb2b363d8b2b55dbd408858ab10689ab102d03738fd0037073cc3d96a911af", func := "firkin/firkinlaw12.BlockBounds", spec := "blockBounds", unfollowed := true, recurses := true, named := ["firkin/crc.shifted"], plainKeys := false, apart := false, laid := [("firkin/crc.shifted", laid_firkin_crc_shifted)] }
def BlockBoundsSaid : Prop := blockBoundsRow.holds Tryd.pinned (OpenSpec.ofChange blockBoundsSpec)

/-- ITS FALSE NEIGHBOUR: 'it returns false'. Refute it at one input. -/
def blockBoundsWrong : ChangeSpec := { name := "blockBounds", fn := fun _ => fun
  | [d] => { results := [.lit (.bool false)], args := [d] }
  | _ => none }
def BlockBoundsWrongFalsely : Prop := blockBoundsRow.holds Tryd.pinned (OpenSpec.ofChange blockBoundsWrong)

/- THE SECOND FORM. 'bulk': how many values and letters a reading holds, each counted each time it is reached (what is shared counts as often as it is met; a slice's spare places count too). A statement '..UptoSaid' is the law's where the arguments, and the package variables that the reading takes, are together of bulk at most 1048576: NARROWER than '..Said'. Prove '..Said' where nothing that the law and all that it calls make is longer than what came in: it says more and counts as full. Else prove '..UptoSaid'. A law counts once. -/
mutual
def uptoBulk {H : Type} : DataW H → Nat
  | .lit (.string bytes) => bytes.length + 1
  | .lit _ => 1
  | .nil => 1
  | .ptr d => uptoBulk d + 1
  | .slice elems spare => uptoBulkAll elems + uptoBulkAll spare + 1
  | .agg parts => uptoBulkAll parts + 1
  | .iface _ d => uptoBulk d + 1
  | .map entries => uptoBulkEntries entries + 1
  | .held _ => 1
def uptoBulkAll {H : Type} : List (DataW H) → Nat
  | [] => 0
  | d :: r => uptoBulk d + uptoBulkAll r
def uptoBulkEntries {H : Type} : List (Lit × DataW H) → Nat
  | [] => 0
  | x :: r => uptoBulkEntry x + uptoBulkEntries r
def uptoBulkEntry {H : Type} : Lit × DataW H → Nat
  | (.string bytes, d) => bytes.length + uptoBulk d + 1
  | (_, d) => uptoBulk d + 1
 end
def uptoSmall : (H : Type) → List (DataW H) → Bool := fun _ ds => decide (uptoBulkAll ds ≤ 1048576)
def OpenSpec.upto (s : _root_.Go.ChangeSpec) : _root_.Go.OpenSpec := { _root_.Go.OpenSpec.ofChange s with cond := some uptoSmall }

/-- 'firkinlaw12.BlockWrites', WHERE WHAT IT READS IS OF BULK AT MOST 1048576: true; the input reads as it did. -/
def blockWritesUptoRow : OpenClaim := { program := "ytloakdiioaodaaadoor", sum := "b5bb2b363d8b2b55dbd408858ab10689ab102d03738fd0037073cc3d96a911af", func := "firkin/firkinlaw12.BlockWrites", spec := "blockWrites", unfollowed := true, recurses := true, named := ["firkin/crc.shifted"], plainKeys := false, apart := false, laid := [("firkin/crc.shifted", laid_firkin_crc_shifted)], narrowed := true }
def BlockWritesUptoSaid : Prop := blockWritesUptoRow.holds Tryd.pinned (OpenSpec.upto blockWritesSpec)

/-- 'firkinlaw12.BlockBack', WHERE WHAT IT READS IS OF BULK AT MOST 1048576: true; the input reads as it did. -/
def blockBackUptoRow : OpenClaim := { program := "ytloakdiioaodaaadoor", sum := "b5bb2b363d8b2b55dbd408858ab10689ab102d03738fd0037073cc3d96a911af", func := "firkin/firkinlaw12.BlockBack", spec := "blockBack", unfollowed := true, recurses := true, named := ["firkin/crc.shifted"], plainKeys := false, apart := false, laid := [("firkin/crc.shifted", laid_firkin_crc_shifted)], narrowed := true }
def BlockBackUptoSaid : Prop := blockBackUptoRow.holds Tryd.pinned (OpenSpec.upto blockBackSpec)

/-- 'firkinlaw12.BlockCut', WHERE WHAT IT READS IS OF BULK AT MOST 1048576: true; the input reads as it did. -/
def blockCutUptoRow : OpenClaim := { program := "ytloakdiioaodaaadoor", sum := "b5bb2b363d8b2b55dbd408858ab10689ab102d03738fd0037073cc3d96a911af", func := "firkin/firkinlaw12.BlockCut", spec := "blockCut", unfollowed := true, recurses := true, named := ["firkin/crc.shifted"], plainKeys := false, apart := false, laid := [("firkin/crc.shifted", laid_firkin_crc_shifted)], narrowed := true }
def BlockCutUptoSaid : Prop := blockCutUptoRow.holds Tryd.pinned (OpenSpec.upto blockCutSpec)

/-- 'firkinlaw12.BlockBounds', WHERE WHAT IT READS IS OF BULK AT MOST 1048576: true; the input reads as it did. -/
def blockBoundsUptoRow : OpenClaim := { program := "ytloakdiioaodaaadoor", sum := "b5bb2b363d8b2b55dbd408858ab10689ab102d03738fd0037073cc3d96a911af", func := "firkin/firkinlaw12.BlockBounds", spec := "blockBounds", unfollowed := true, recurses := true, named := ["firkin/crc.shifted"], plainKeys := false, apart := false, laid := [("firkin/crc.shifted", laid_firkin_crc_shifted)], narrowed := true }
def BlockBoundsUptoSaid : Prop := blockBoundsUptoRow.holds Tryd.pinned (OpenSpec.upto blockBoundsSpec)

end Rows
end Go.Proofs.YtloakdiioaodaaaDoor
