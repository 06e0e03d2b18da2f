/-
  NARROWER THAN 'FOR EVERY INPUT', by the rows' own cells (each row's printed sentence says how): BodyBlocks: laid · BodyBack: laid · BodyIndex: laid · DiffBetween: laid · BodyOpened: laid · TwoUnpacks: laid · TwoBack: laid.
  DERIVED. THE GIVEN ROWS OF THIS SEAT. 7 by the template 'for every input the law returns true; each argument reads behind the call as it read before'; 0 by the template 'total and deterministic' (their statements: YtfgdoknipbpfhaaGreatDoorTotals.lean).
  GIVEN WITH THE SEED: the statements are not yours to turn. If you find one false, say at which input.
  Laid BY PROGRAM, IN A SANDBOX (cutbox-rows.mjs): the forced cells as the released guide's own fill.sh prints them over the translation 3d88b79c3ccc6793… (all of the seat's roots in one cut). By AI agents, Wed Nov 11 2026. No macro, syntax, notation, axiom, sorry.
-/
import Derived.Test.YtfgdoknipbpfhaaGreatDoorChecked
import GoSem.Claim
import GoSem.ClaimJoined
import GoSem.ClaimMapViews
import Derived.JoinedTies
import Derived.KernelRfl
namespace Go.Proofs.YtfgdoknipbpfhaaGreatDoor
/- THE CELL 'sum', in the pinned program and in every row, IS THE sha256 OF THE DUMP (.gsa) THAT YtfgdoknipbpfhaaGreatDoorProg.lean LOADS. Nothing in Lean hashes anything: it is a label: what it is worth is what the hold of that sum in a sandbox is worth. -/
noncomputable def Tryz.pinned : Pinned := { name := "ytfgdoknipbpfhaagreatdoor", sum := "3d88b79c3ccc6793b1fbd18b0e0156216935e268856962cdb27c86a14792b9c4", checked := Tryz.checked }
namespace Rows
def none {H : Type} : Left H := { results := [], args := [] }

/- WHAT THE LISTED PACKAGE-LEVEL VARIABLES READ AS WHEN THE CALL BEGINS. Each datum BY PROGRAM (the guide's laid-datum.mjs) off the statement by which the dump's own 'gosem.cut.vars' lays the variable. In a bare row this is a premise. The card (YtfgdoknipbpfhaaGreatDoorCards.lean) ties it to the program's text. -/
def laid_firkin_crc_shifted {H : Type} : DataW H := .agg [.lit (.int .u32 0), .lit (.int .u32 498536548), .lit (.int .u32 997073096), .lit (.int .u32 651767980), .lit (.int .u32 1994146192), .lit (.int .u32 1802195444), .lit (.int .u32 1303535960), .lit (.int .u32 1342533948), .lit (.int .u32 3988292384), .lit (.int .u32 4027552580), .lit (.int .u32 3604390888), .lit (.int .u32 3412177804), .lit (.int .u32 2607071920), .lit (.int .u32 2262029012), .lit (.int .u32 2685067896), .lit (.int .u32 3183342108)]

/-- 'firkinlaw20.BodyBlocks': WHATEVER THE INPUT: true; the input reads as it did. -/
def bodyBlocksSpec : ChangeSpec := { name := "bodyBlocks", fn := fun _ => fun
  | [d1, d2, d3] => { results := [.lit (.bool true)], args := [d1, d2, d3] }
  | _ => none }
def bodyBlocksRow : OpenClaim := { program := "ytfgdoknipbpfhaagreatdoor", sum := "3d88b79c3ccc6793b1fbd18b0e0156216935e268856962cdb27c86a14792b9c4", func := "firkin/firkinlaw20.BodyBlocks", spec := "bodyBlocks", unfollowed := true, recurses := true, named := ["firkin/crc.shifted"], plainKeys := false, apart := false, laid := [("firkin/crc.shifted", laid_firkin_crc_shifted)] }
def BodyBlocksSaid : Prop := bodyBlocksRow.holds Tryz.pinned (OpenSpec.ofChange bodyBlocksSpec)

/-- ITS FALSE NEIGHBOUR: 'it returns false'. Refute it at one input. -/
def bodyBlocksWrong : ChangeSpec := { name := "bodyBlocks", fn := fun _ => fun
  | [d1, d2, d3] => { results := [.lit (.bool false)], args := [d1, d2, d3] }
  | _ => none }
def BodyBlocksWrongFalsely : Prop := bodyBlocksRow.holds Tryz.pinned (OpenSpec.ofChange bodyBlocksWrong)

/-- 'firkinlaw20.BodyBack': WHATEVER THE INPUT: true; the input reads as it did. -/
def bodyBackSpec : ChangeSpec := { name := "bodyBack", fn := fun _ => fun
  | [d1, d2] => { results := [.lit (.bool true)], args := [d1, d2] }
  | _ => none }
def bodyBackRow : OpenClaim := { program := "ytfgdoknipbpfhaagreatdoor", sum := "3d88b79c3ccc6793b1fbd18b0e0156216935e268856962cdb27c86a14792b9c4", func := "firkin/firkinlaw20.BodyBack", spec := "bodyBack", unfollowed := true, recurses := true, named := ["firkin/crc.shifted"], plainKeys := false, apart := false, laid := [("firkin/crc.shifted", laid_firkin_crc_shifted)] }
def BodyBackSaid : Prop := bodyBackRow.holds Tryz.pinned (OpenSpec.ofChange bodyBackSpec)

/-- ITS FALSE NEIGHBOUR: 'it returns false'. Refute it at one input. -/
def bodyBackWrong : ChangeSpec := { name := "bodyBack", fn := fun _ => fun
  | [d1, d2] => { results := [.lit (.bool false)], args := [d1, d2] }
  | _ => none }
def BodyBackWrongFalsely : Prop := bodyBackRow.holds Tryz.pinned (OpenSpec.ofChange bodyBackWrong)

/-- 'firkinlaw20.BodyIndex': WHATEVER THE INPUT: true; the input reads as it did. -/
def bodyIndexSpec : ChangeSpec := { name := "bodyIndex", fn := fun _ => fun
  | [d1, d2, d3] => { results := [.lit (.bool true)], args := [d1, d2, d3] }
  | _ => none }
def bodyIndexRow : OpenClaim := { program := "ytfgdoknipbpfhaagreatdoor", sum := "3d88b79c3ccc6793b1fbd18b0e0156216935e268856962cdb27c86a14792b9c4", func := "firkin/firkinlaw20.BodyIndex", spec := "bodyIndex", unfollowed := true, recurses := true, named := ["firkin/crc.shifted"], plainKeys := false, apart := false, laid := [("firkin/crc.shifted", laid_firkin_crc_shifted)] }
def BodyIndexSaid : Prop := bodyIndexRow.holds Tryz.pinned (OpenSpec.ofChange bodyIndexSpec)

/-- ITS FALSE NEIGHBOUR: 'it returns false'. Refute it at one input. -/
def bodyIndexWrong : ChangeSpec := { name := "bodyIndex", fn := fun _ => fun
  | [d1, d2, d3] => { results := [.lit (.bool false)], args := [d1, d2, d3] }
  | _ => none }
def BodyIndexWrongFalsely : Prop := bodyIndexRow.holds Tryz.pinned (OpenSpec.ofChange bodyIndexWrong)

/-- 'firkinlaw36.DiffBetween': WHATEVER THE INPUT: true; the input reads as it did. -/
def diffBetweenSpec : ChangeSpec := { name := "diffBetween", fn := fun _ => fun
  | [d1, d2] => { results := [.lit (.bool true)], args := [d1, d2] }
  | _ => none }
def diffBetweenRow : OpenClaim := { program := "ytfgdoknipbpfhaagreatdoor", sum := "3d88b79c3ccc6793b1fbd18b0e0156216935e268856962cdb27c86a14792b9c4", func := "firkin/firkinlaw36.DiffBetween", spec := "diffBetween", unfollowed := true, recurses := true, named := ["firkin/crc.shifted"], plainKeys := false, apart := false, laid := [("firkin/crc.shifted", laid_firkin_crc_shifted)] }
def DiffBetweenSaid : Prop := diffBetweenRow.holds Tryz.pinned (OpenSpec.ofChange diffBetweenSpec)

/-- ITS FALSE NEIGHBOUR: 'it returns false'. Refute it at one input. -/
def diffBetweenWrong : ChangeSpec := { name := "diffBetween", fn := fun _ => fun
  | [d1, d2] => { results := [.lit (.bool false)], args := [d1, d2] }
  | _ => none }
def DiffBetweenWrongFalsely : Prop := diffBetweenRow.holds Tryz.pinned (OpenSpec.ofChange diffBetweenWrong)

/-- 'firkinlaw20.BodyOpened': WHATEVER THE INPUT: true; the input reads as it did. -/
def bodyOpenedSpec : ChangeSpec := { name := "bodyOpened", fn := fun _ => fun
  | [d1, d2, d3] => { results := [.lit (.bool true)], args := [d1, d2, d3] }
  | _ => none }
def bodyOpenedRow : OpenClaim := { program := "ytfgdoknipbpfhaagreatdoor", sum := "3d88b79c3ccc6793b1fbd18b0e0156216935e268856962cdb27c86a14792b9c4", func := "firkin/firkinlaw20.BodyOpened", spec := "bodyOpened", unfollowed := true, recurses := true, named := ["firkin/crc.shifted"], plainKeys := false, apart := false, laid := [("firkin/crc.shifted", laid_firkin_crc_shifted)] }
def BodyOpenedSaid : Prop := bodyOpenedRow.holds Tryz.pinned (OpenSpec.ofChange bodyOpenedSpec)

/-- ITS FALSE NEIGHBOUR: 'it returns false'. Refute it at one input. -/
def bodyOpenedWrong : ChangeSpec := { name := "bodyOpened", fn := fun _ => fun
  | [d1, d2, d3] => { results := [.lit (.bool false)], args := [d1, d2, d3] }
  | _ => none }
def BodyOpenedWrongFalsely : Prop := bodyOpenedRow.holds Tryz.pinned (OpenSpec.ofChange bodyOpenedWrong)

/-- 'firkinlaw22.TwoUnpacks': WHATEVER THE INPUT: true; the input reads as it did. -/
def twoUnpacksSpec : ChangeSpec := { name := "twoUnpacks", fn := fun _ => fun
  | [d] => { results := [.lit (.bool true)], args := [d] }
  | _ => none }
def twoUnpacksRow : OpenClaim := { program := "ytfgdoknipbpfhaagreatdoor", sum := "3d88b79c3ccc6793b1fbd18b0e0156216935e268856962cdb27c86a14792b9c4", func := "firkin/firkinlaw22.TwoUnpacks", spec := "twoUnpacks", unfollowed := true, recurses := true, named := ["firkin/crc.shifted"], plainKeys := false, apart := false, laid := [("firkin/crc.shifted", laid_firkin_crc_shifted)] }
def TwoUnpacksSaid : Prop := twoUnpacksRow.holds Tryz.pinned (OpenSpec.ofChange twoUnpacksSpec)

/-- ITS FALSE NEIGHBOUR: 'it returns false'. Refute it at one input. -/
def twoUnpacksWrong : ChangeSpec := { name := "twoUnpacks", fn := fun _ => fun
  | [d] => { results := [.lit (.bool false)], args := [d] }
  | _ => none }
def TwoUnpacksWrongFalsely : Prop := twoUnpacksRow.holds Tryz.pinned (OpenSpec.ofChange twoUnpacksWrong)

/-- 'firkinlaw22.TwoBack': WHATEVER THE INPUT: true; the input reads as it did. -/
def twoBackSpec : ChangeSpec := { name := "twoBack", fn := fun _ => fun
  | [d1, d2] => { results := [.lit (.bool true)], args := [d1, d2] }
  | _ => none }
def twoBackRow : OpenClaim := { program := "ytfgdoknipbpfhaagreatdoor", sum := "3d88b79c3ccc6793b1fbd18b0e0156216935e268856962cdb27c86a14792b9c4", func := "firkin/firkinlaw22.TwoBack", spec := "twoBack", unfollowed := true, recurses := true, named := ["firkin/crc.shifted"], plainKeys := false, apart := false, laid := [("firkin/crc.shifted", laid_firkin_crc_shifted)] }
def TwoBackSaid : Prop := twoBackRow.holds Tryz.pinned (OpenSpec.ofChange twoBackSpec)

/-- ITS FALSE NEIGHBOUR: 'it returns false'. Refute it at one input. -/
def twoBackWrong : ChangeSpec := { name := "twoBack", fn := fun _ => fun
  | [d1, d2] => { results := [.lit (.bool false)], args := [d1, d2] }
  | _ => none }
def TwoBackWrongFalsely : Prop := twoBackRow.holds Tryz.pinned (OpenSpec.ofChange twoBackWrong)

/- THE SECOND FORM. 'bulk': how many values and letters a reading holds, each counted each time it is reached (what is shared counts as often as it is met; a slice's spare places count too). A statement '..UptoSaid' is the law's where the arguments, and the package variables that the reading takes, are together of bulk at most 1048576: NARROWER than '..Said'. Prove '..Said' where nothing that the law and all that it calls make is longer than what came in: it says more and counts as full. Else prove '..UptoSaid'. A law counts once. -/
mutual
def uptoBulk {H : Type} : DataW H → Nat
  | .lit (.string bytes) => bytes.length + 1
  | .lit _ => 1
  | .nil => 1
  | .ptr d => uptoBulk d + 1
  | .slice elems spare => uptoBulkAll elems + uptoBulkAll spare + 1
  | .agg parts => uptoBulkAll parts + 1
  | .iface _ d => uptoBulk d + 1
  | .map entries => uptoBulkEntries entries + 1
  | .held _ => 1
def uptoBulkAll {H : Type} : List (DataW H) → Nat
  | [] => 0
  | d :: r => uptoBulk d + uptoBulkAll r
def uptoBulkEntries {H : Type} : List (Lit × DataW H) → Nat
  | [] => 0
  | x :: r => uptoBulkEntry x + uptoBulkEntries r
def uptoBulkEntry {H : Type} : Lit × DataW H → Nat
  | (.string bytes, d) => bytes.length + uptoBulk d + 1
  | (_, d) => uptoBulk d + 1
 end
def uptoSmall : (H : Type) → List (DataW H) → Bool := fun _ ds => decide (uptoBulkAll ds ≤ 1048576)
def OpenSpec.upto (s : _root_.Go.ChangeSpec) : _root_.Go.OpenSpec := { _root_.Go.OpenSpec.ofChange s with cond := some uptoSmall }

/-- 'firkinlaw20.BodyBlocks', WHERE WHAT IT READS IS OF BULK AT MOST 1048576: true; the input reads as it did. -/
def bodyBlocksUptoRow : OpenClaim := { program := "ytfgdoknipbpfhaagreatdoor", sum := "3d88b79c3ccc6793b1fbd18b0e0156216935e268856962cdb27c86a14792b9c4", func := "firkin/firkinlaw20.BodyBlocks", spec := "bodyBlocks", unfollowed := true, recurses := true, named := ["firkin/crc.shifted"], plainKeys := false, apart := false, laid := [("firkin/crc.shifted", laid_firkin_crc_shifted)], narrowed := true }
def BodyBlocksUptoSaid : Prop := bodyBlocksUptoRow.holds Tryz.pinned (OpenSpec.upto bodyBlocksSpec)

/-- 'firkinlaw20.BodyBack', WHERE WHAT IT READS IS OF BULK AT MOST 1048576: true; the input reads as it did. -/
def bodyBackUptoRow : OpenClaim := { program := "ytfgdoknipbpfhaagreatdoor", sum := "3d88b79c3ccc6793b1fbd18b0e0156216935e268856962cdb27c86a14792b9c4", func := "firkin/firkinlaw20.BodyBack", spec := "bodyBack", unfollowed := true, recurses := true, named := ["firkin/crc.shifted"], plainKeys := false, apart := false, laid := [("firkin/crc.shifted", laid_firkin_crc_shifted)], narrowed := true }
def BodyBackUptoSaid : Prop := bodyBackUptoRow.holds Tryz.pinned (OpenSpec.upto bodyBackSpec)

/-- 'firkinlaw20.BodyIndex', WHERE WHAT IT READS IS OF BULK AT MOST 1048576: true; the input reads as it did. -/
def bodyIndexUptoRow : OpenClaim := { program := "ytfgdoknipbpfhaagreatdoor", sum := "3d88b79c3ccc6793b1fbd18b0e0156216935e268856962cdb27c86a14792b9c4", func := "firkin/firkinlaw20.BodyIndex", spec := "bodyIndex", unfollowed := true, recurses := true, named := ["firkin/crc.shifted"], plainKeys := false, apart := false, laid := [("firkin/crc.shifted", laid_firkin_crc_shifted)], narrowed := true }
def BodyIndexUptoSaid : Prop := bodyIndexUptoRow.holds Tryz.pinned (OpenSpec.upto bodyIndexSpec)

/-- 'firkinlaw36.DiffBetween', WHERE WHAT IT READS IS OF BULK AT MOST 1048576: true; the input reads as it did. -/
def diffBetweenUptoRow : OpenClaim := { program := "ytfgdoknipbpfhaagreatdoor", sum := "3d88b79c3ccc6793b1fbd18b0e0156216935e268856962cdb27c86a14792b9c4", func := "firkin/firkinlaw36.DiffBetween", spec := "diffBetween", unfollowed := true, recurses := true, named := ["firkin/crc.shifted"], plainKeys := false, apart := false, laid := [("firkin/crc.shifted", laid_firkin_crc_shifted)], narrowed := true }
def DiffBetweenUptoSaid : Prop := diffBetweenUptoRow.holds Tryz.pinned (OpenSpec.upto diffBetweenSpec)

/-- 'firkinlaw20.BodyOpened', WHERE WHAT IT READS IS OF BULK AT MOST 1048576: true; the input reads as it did. -/
def bodyOpenedUptoRow : OpenClaim := { program := "ytfgdoknipbpfhaagreatdoor", sum := "3d88b79c3ccc6793b1fbd18b0e0156216935e268856962cdb27c86a14792b9c4", func := "firkin/firkinlaw20.BodyOpened", spec := "bodyOpened", unfollowed := true, recurses := true, named := ["firkin/crc.shifted"], plainKeys := false, apart := false, laid := [("firkin/crc.shifted", laid_firkin_crc_shifted)], narrowed := true }
def BodyOpenedUptoSaid : Prop := bodyOpenedUptoRow.holds Tryz.pinned (OpenSpec.upto bodyOpenedSpec)

/-- 'firkinlaw22.TwoUnpacks', WHERE WHAT IT READS IS OF BULK AT MOST 1048576: true; the input reads as it did. -/
def twoUnpacksUptoRow : OpenClaim := { program := "ytfgdoknipbpfhaagreatdoor", sum := "3d88b79c3ccc6793b1fbd18b0e0156216935e268856962cdb27c86a14792b9c4", func := "firkin/firkinlaw22.TwoUnpacks", spec := "twoUnpacks", unfollowed := true, recurses := true, named := ["firkin/crc.shifted"], plainKeys := false, apart := false, laid := [("firkin/crc.shifted", laid_firkin_crc_shifted)], narrowed := true }
def TwoUnpacksUptoSaid : Prop := twoUnpacksUptoRow.holds Tryz.pinned (OpenSpec.upto twoUnpacksSpec)

/-- 'firkinlaw22.TwoBack', WHERE WHAT IT READS IS OF BULK AT MOST 1048576: true; the input reads as it did. -/
def twoBackUptoRow : OpenClaim := { program := "ytfgdoknipbpfhaagreatdoor", sum := "3d88b79c3ccc6793b1fbd18b0e0156216935e268856962cdb27c86a14792b9c4", func := "firkin/firkinlaw22.TwoBack", spec := "twoBack", unfollowed := true, recurses := true, named := ["firkin/crc.shifted"], plainKeys := false, apart := false, laid := [("firkin/crc.shifted", laid_firkin_crc_shifted)], narrowed := true }
def TwoBackUptoSaid : Prop := twoBackUptoRow.holds Tryz.pinned (OpenSpec.upto twoBackSpec)

end Rows
end Go.Proofs.YtfgdoknipbpfhaaGreatDoor
