/-
  NARROWER THAN 'FOR EVERY INPUT', by the rows' own cells (each row's printed sentence says how): OnePacks: laid · BlockTurned: laid · BlockReads: laid · OneUnpacks: laid · OneBack: laid · OneTurned: laid.
  DERIVED. THE GIVEN ROWS OF THIS SEAT. 6 by the template 'for every input the law returns true; each argument reads behind the call as it read before'; 0 by the template 'total and deterministic' (their statements: YtidclmmnfienlaaGreatDoorTotals.lean).
  GIVEN WITH THE SEED: the statements are not yours to turn. If you find one false, say at which input.
  Laid BY PROGRAM, IN A SANDBOX (cutbox-rows.mjs): the forced cells as the released guide's own fill.sh prints them over the translation c0e87274ae62e35f… (all of the seat's roots in one cut). By AI agents, Wed Nov 11 2026. No macro, syntax, notation, axiom, sorry.
-/
import Derived.Test.YtidclmmnfienlaaGreatDoorChecked
import GoSem.Claim
import GoSem.ClaimJoined
import GoSem.ClaimMapViews
import Derived.JoinedTies
import Derived.KernelRfl
namespace Go.Proofs.YtidclmmnfienlaaGreatDoor
/- THE CELL 'sum', in the pinned program and in every row, IS THE sha256 OF THE DUMP (.gsa) THAT YtidclmmnfienlaaGreatDoorProg.lean LOADS. Nothing in Lean hashes anything: it is a label: what it is worth is what the hold of that sum in a sandbox is worth. -/
noncomputable def Tryz.pinned : Pinned := { name := "ytidclmmnfienlaagreatdoor", sum := "c0e87274ae62e35f29b04d5b2a3793046f8eabe80f142f57347072cb6213df2b", checked := Tryz.checked }
namespace Rows
def none {H : Type} : Left H := { results := [], args := [] }

/- WHAT THE LISTED PACKAGE-LEVEL VARIABLES READ AS WHEN THE CALL BEGINS. Each datum BY PROGRAM (the guide's laid-datum.mjs) off the statement by which the dump's own 'gosem.cut.vars' lays the variable. In a bare row this is a premise. The card (YtidclmmnfienlaaGreatDoorCards.lean) ties it to the program's text. -/
def laid_firkin_crc_shifted {H : Type} : DataW H := .agg [.lit (.int .u32 0), .lit (.int .u32 498536548), .lit (.int .u32 997073096), .lit (.int .u32 651767980), .lit (.int .u32 1994146192), .lit (.int .u32 1802195444), .lit (.int .u32 1303535960), .lit (.int .u32 1342533948), .lit (.int .u32 3988292384), .lit (.int .u32 4027552580), .lit (.int .u32 3604390888), .lit (.int .u32 3412177804), .lit (.int .u32 2607071920), .lit (.int .u32 2262029012), .lit (.int .u32 2685067896), .lit (.int .u32 3183342108)]

/-- 'firkinlaw21.OnePacks': WHATEVER THE INPUT: true; the input reads as it did. -/
def onePacksSpec : ChangeSpec := { name := "onePacks", fn := fun _ => fun
  | [d1, d2] => { results := [.lit (.bool true)], args := [d1, d2] }
  | _ => none }
def onePacksRow : OpenClaim := { program := "ytidclmmnfienlaagreatdoor", sum := "c0e87274ae62e35f29b04d5b2a3793046f8eabe80f142f57347072cb6213df2b", func := "firkin/firkinlaw21.OnePacks", spec := "onePacks", unfollowed := true, recurses := true, named := ["firkin/crc.shifted"], plainKeys := false, apart := false, laid := [("firkin/crc.shifted", laid_firkin_crc_shifted)] }
def OnePacksSaid : Prop := onePacksRow.holds Tryz.pinned (OpenSpec.ofChange onePacksSpec)

/-- ITS FALSE NEIGHBOUR: 'it returns false'. Refute it at one input. -/
def onePacksWrong : ChangeSpec := { name := "onePacks", fn := fun _ => fun
  | [d1, d2] => { results := [.lit (.bool false)], args := [d1, d2] }
  | _ => none }
def OnePacksWrongFalsely : Prop := onePacksRow.holds Tryz.pinned (OpenSpec.ofChange onePacksWrong)

/-- 'firkinlaw12.BlockTurned': WHATEVER THE INPUT: true; the input reads as it did. -/
def blockTurnedSpec : ChangeSpec := { name := "blockTurned", fn := fun _ => fun
  | [d1, d2, d3, d4] => { results := [.lit (.bool true)], args := [d1, d2, d3, d4] }
  | _ => none }
def blockTurnedRow : OpenClaim := { program := "ytidclmmnfienlaagreatdoor", sum := "c0e87274ae62e35f29b04d5b2a3793046f8eabe80f142f57347072cb6213df2b", func := "firkin/firkinlaw12.BlockTurned", spec := "blockTurned", unfollowed := true, recurses := true, named := ["firkin/crc.shifted"], plainKeys := false, apart := false, laid := [("firkin/crc.shifted", laid_firkin_crc_shifted)] }
def BlockTurnedSaid : Prop := blockTurnedRow.holds Tryz.pinned (OpenSpec.ofChange blockTurnedSpec)

/-- ITS FALSE NEIGHBOUR: 'it returns false'. Refute it at one input. -/
def blockTurnedWrong : ChangeSpec := { name := "blockTurned", fn := fun _ => fun
  | [d1, d2, d3, d4] => { results := [.lit (.bool false)], args := [d1, d2, d3, d4] }
  | _ => none }
def BlockTurnedWrongFalsely : Prop := blockTurnedRow.holds Tryz.pinned (OpenSpec.ofChange blockTurnedWrong)

/-- 'firkinlaw12.BlockReads': WHATEVER THE INPUT: true; the input reads as it did. -/
def blockReadsSpec : ChangeSpec := { name := "blockReads", fn := fun _ => fun
  | [d] => { results := [.lit (.bool true)], args := [d] }
  | _ => none }
def blockReadsRow : OpenClaim := { program := "ytidclmmnfienlaagreatdoor", sum := "c0e87274ae62e35f29b04d5b2a3793046f8eabe80f142f57347072cb6213df2b", func := "firkin/firkinlaw12.BlockReads", spec := "blockReads", unfollowed := true, recurses := true, named := ["firkin/crc.shifted"], plainKeys := false, apart := false, laid := [("firkin/crc.shifted", laid_firkin_crc_shifted)] }
def BlockReadsSaid : Prop := blockReadsRow.holds Tryz.pinned (OpenSpec.ofChange blockReadsSpec)

/-- ITS FALSE NEIGHBOUR: 'it returns false'. Refute it at one input. -/
def blockReadsWrong : ChangeSpec := { name := "blockReads", fn := fun _ => fun
  | [d] => { results := [.lit (.bool false)], args := [d] }
  | _ => none }
def BlockReadsWrongFalsely : Prop := blockReadsRow.holds Tryz.pinned (OpenSpec.ofChange blockReadsWrong)

/-- 'firkinlaw21.OneUnpacks': WHATEVER THE INPUT: true; the input reads as it did. -/
def oneUnpacksSpec : ChangeSpec := { name := "oneUnpacks", fn := fun _ => fun
  | [d] => { results := [.lit (.bool true)], args := [d] }
  | _ => none }
def oneUnpacksRow : OpenClaim := { program := "ytidclmmnfienlaagreatdoor", sum := "c0e87274ae62e35f29b04d5b2a3793046f8eabe80f142f57347072cb6213df2b", func := "firkin/firkinlaw21.OneUnpacks", spec := "oneUnpacks", unfollowed := true, recurses := true, named := ["firkin/crc.shifted"], plainKeys := false, apart := false, laid := [("firkin/crc.shifted", laid_firkin_crc_shifted)] }
def OneUnpacksSaid : Prop := oneUnpacksRow.holds Tryz.pinned (OpenSpec.ofChange oneUnpacksSpec)

/-- ITS FALSE NEIGHBOUR: 'it returns false'. Refute it at one input. -/
def oneUnpacksWrong : ChangeSpec := { name := "oneUnpacks", fn := fun _ => fun
  | [d] => { results := [.lit (.bool false)], args := [d] }
  | _ => none }
def OneUnpacksWrongFalsely : Prop := oneUnpacksRow.holds Tryz.pinned (OpenSpec.ofChange oneUnpacksWrong)

/-- 'firkinlaw21.OneBack': WHATEVER THE INPUT: true; the input reads as it did. -/
def oneBackSpec : ChangeSpec := { name := "oneBack", fn := fun _ => fun
  | [d1, d2] => { results := [.lit (.bool true)], args := [d1, d2] }
  | _ => none }
def oneBackRow : OpenClaim := { program := "ytidclmmnfienlaagreatdoor", sum := "c0e87274ae62e35f29b04d5b2a3793046f8eabe80f142f57347072cb6213df2b", func := "firkin/firkinlaw21.OneBack", spec := "oneBack", unfollowed := true, recurses := true, named := ["firkin/crc.shifted"], plainKeys := false, apart := false, laid := [("firkin/crc.shifted", laid_firkin_crc_shifted)] }
def OneBackSaid : Prop := oneBackRow.holds Tryz.pinned (OpenSpec.ofChange oneBackSpec)

/-- ITS FALSE NEIGHBOUR: 'it returns false'. Refute it at one input. -/
def oneBackWrong : ChangeSpec := { name := "oneBack", fn := fun _ => fun
  | [d1, d2] => { results := [.lit (.bool false)], args := [d1, d2] }
  | _ => none }
def OneBackWrongFalsely : Prop := oneBackRow.holds Tryz.pinned (OpenSpec.ofChange oneBackWrong)

/-- 'firkinlaw21.OneTurned': WHATEVER THE INPUT: true; the input reads as it did. -/
def oneTurnedSpec : ChangeSpec := { name := "oneTurned", fn := fun _ => fun
  | [d1, d2, d3, d4] => { results := [.lit (.bool true)], args := [d1, d2, d3, d4] }
  | _ => none }
def oneTurnedRow : OpenClaim := { program := "ytidclmmnfienlaagreatdoor", sum := "c0e87274ae62e35f29b04d5b2a3793046f8eabe80f142f57347072cb6213df2b", func := "firkin/firkinlaw21.OneTurned", spec := "oneTurned", unfollowed := true, recurses := true, named := ["firkin/crc.shifted"], plainKeys := false, apart := false, laid := [("firkin/crc.shifted", laid_firkin_crc_shifted)] }
def OneTurnedSaid : Prop := oneTurnedRow.holds Tryz.pinned (OpenSpec.ofChange oneTurnedSpec)

/-- ITS FALSE NEIGHBOUR: 'it returns false'. Refute it at one input. -/
def oneTurnedWrong : ChangeSpec := { name := "oneTurned", fn := fun _ => fun
  | [d1, d2, d3, d4] => { results := [.lit (.bool false)], args := [d1, d2, d3, d4] }
  | _ => none }
def OneTurnedWrongFalsely : Prop := oneTurnedRow.holds Tryz.pinned (OpenSpec.ofChange oneTurnedWrong)

/- THE SECOND FORM. 'bulk': how many values and letters a reading holds, each counted each time it is reached (what is shared counts as often as it is met; a slice's spare places count too). A statement '..UptoSaid' is the law's where the arguments, and the package variables that the reading takes, are together of bulk at most 1048576: NARROWER than '..Said'. Prove '..Said' where nothing that the law and all that it calls make is longer than what came in: it says more and counts as full. Else prove '..UptoSaid'. A law counts once. -/
mutual
def uptoBulk {H : Type} : DataW H → Nat
  | .lit (.string bytes) => bytes.length + 1
  | .lit _ => 1
  | .nil => 1
  | .ptr d => uptoBulk d + 1
  | .slice elems spare => uptoBulkAll elems + uptoBulkAll spare + 1
  | .agg parts => uptoBulkAll parts + 1
  | .iface _ d => uptoBulk d + 1
  | .map entries => uptoBulkEntries entries + 1
  | .held _ => 1
def uptoBulkAll {H : Type} : List (DataW H) → Nat
  | [] => 0
  | d :: r => uptoBulk d + uptoBulkAll r
def uptoBulkEntries {H : Type} : List (Lit × DataW H) → Nat
  | [] => 0
  | x :: r => uptoBulkEntry x + uptoBulkEntries r
def uptoBulkEntry {H : Type} : Lit × DataW H → Nat
  | (.string bytes, d) => bytes.length + uptoBulk d + 1
  | (_, d) => uptoBulk d + 1
 end
def uptoSmall : (H : Type) → List (DataW H) → Bool := fun _ ds => decide (uptoBulkAll ds ≤ 1048576)
def OpenSpec.upto (s : _root_.Go.ChangeSpec) : _root_.Go.OpenSpec := { _root_.Go.OpenSpec.ofChange s with cond := some uptoSmall }

/-- 'firkinlaw21.OnePacks', WHERE WHAT IT READS IS OF BULK AT MOST 1048576: true; the input reads as it did. -/
def onePacksUptoRow : OpenClaim := { program := "ytidclmmnfienlaagreatdoor", sum := "c0e87274ae62e35f29b04d5b2a3793046f8eabe80f142f57347072cb6213df2b", func := "firkin/firkinlaw21.OnePacks", spec := "onePacks", unfollowed := true, recurses := true, named := ["firkin/crc.shifted"], plainKeys := false, apart := false, laid := [("firkin/crc.shifted", laid_firkin_crc_shifted)], narrowed := true }
def OnePacksUptoSaid : Prop := onePacksUptoRow.holds Tryz.pinned (OpenSpec.upto onePacksSpec)

/-- 'firkinlaw12.BlockTurned', WHERE WHAT IT READS IS OF BULK AT MOST 1048576: true; the input reads as it did. -/
def blockTurnedUptoRow : OpenClaim := { program := "ytidclmmnfienlaagreatdoor", sum := "c0e87274ae62e35f29b04d5b2a3793046f8eabe80f142f57347072cb6213df2b", func := "firkin/firkinlaw12.BlockTurned", spec := "blockTurned", unfollowed := true, recurses := true, named := ["firkin/crc.shifted"], plainKeys := false, apart := false, laid := [("firkin/crc.shifted", laid_firkin_crc_shifted)], narrowed := true }
def BlockTurnedUptoSaid : Prop := blockTurnedUptoRow.holds Tryz.pinned (OpenSpec.upto blockTurnedSpec)

/-- 'firkinlaw12.BlockReads', WHERE WHAT IT READS IS OF BULK AT MOST 1048576: true; the input reads as it did. -/
def blockReadsUptoRow : OpenClaim := { program := "ytidclmmnfienlaagreatdoor", sum := "c0e87274ae62e35f29b04d5b2a3793046f8eabe80f142f57347072cb6213df2b", func := "firkin/firkinlaw12.BlockReads", spec := "blockReads", unfollowed := true, recurses := true, named := ["firkin/crc.shifted"], plainKeys := false, apart := false, laid := [("firkin/crc.shifted", laid_firkin_crc_shifted)], narrowed := true }
def BlockReadsUptoSaid : Prop := blockReadsUptoRow.holds Tryz.pinned (OpenSpec.upto blockReadsSpec)

/-- 'firkinlaw21.OneUnpacks', WHERE WHAT IT READS IS OF BULK AT MOST 1048576: true; the input reads as it did. -/
def oneUnpacksUptoRow : OpenClaim := { program := "ytidclmmnfienlaagreatdoor", sum := "c0e87274ae62e35f29b04d5b2a3793046f8eabe80f142f57347072cb6213df2b", func := "firkin/firkinlaw21.OneUnpacks", spec := "oneUnpacks", unfollowed := true, recurses := true, named := ["firkin/crc.shifted"], plainKeys := false, apart := false, laid := [("firkin/crc.shifted", laid_firkin_crc_shifted)], narrowed := true }
def OneUnpacksUptoSaid : Prop := oneUnpacksUptoRow.holds Tryz.pinned (OpenSpec.upto oneUnpacksSpec)

/-- 'firkinlaw21.OneBack', WHERE WHAT IT READS IS OF BULK AT MOST 1048576: true; the input reads as it did. -/
def oneBackUptoRow : OpenClaim := { program := "ytidclmmnfienlaagreatdoor", sum := "c0e87274ae62e35f29b04d5b2a3793046f8eabe80f142f57347072cb6213df2b", func := "firkin/firkinlaw21.OneBack", spec := "oneBack", unfollowed := true, recurses := true, named := ["firkin/crc.shifted"], plainKeys := false, apart := false, laid := [("firkin/crc.shifted", laid_firkin_crc_shifted)], narrowed := true }
def OneBackUptoSaid : Prop := oneBackUptoRow.holds Tryz.pinned (OpenSpec.upto oneBackSpec)

/-- 'firkinlaw21.OneTurned', WHERE WHAT IT READS IS OF BULK AT MOST 1048576: true; the input reads as it did. -/
def oneTurnedUptoRow : OpenClaim := { program := "ytidclmmnfienlaagreatdoor", sum := "c0e87274ae62e35f29b04d5b2a3793046f8eabe80f142f57347072cb6213df2b", func := "firkin/firkinlaw21.OneTurned", spec := "oneTurned", unfollowed := true, recurses := true, named := ["firkin/crc.shifted"], plainKeys := false, apart := false, laid := [("firkin/crc.shifted", laid_firkin_crc_shifted)], narrowed := true }
def OneTurnedUptoSaid : Prop := oneTurnedUptoRow.holds Tryz.pinned (OpenSpec.upto oneTurnedSpec)

end Rows
end Go.Proofs.YtidclmmnfienlaaGreatDoor
