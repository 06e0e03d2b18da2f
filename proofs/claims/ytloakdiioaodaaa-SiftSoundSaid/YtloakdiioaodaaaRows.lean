/-
  No cell of these rows narrows 'for every input' (looked for: loops, veiled, ifaces, maps, wideKeys, modest, calm, conditions, laid).
  DERIVED. THE GIVEN ROWS OF THIS SEAT. 4 by the template 'for every input the law returns true; each argument reads behind the call as it read before'; 0 by the template 'total and deterministic' (their statements: YtloakdiioaodaaaTotals.lean).
  GIVEN WITH THE SEED: the statements are not yours to turn. If you find one false, say at which input.
  Laid BY PROGRAM, IN A SANDBOX (cutbox-rows.mjs): the forced cells as the released guide's own fill.sh prints them over the translation 9a8a33b4f6540f2a… (all of the seat's roots in one cut). By AI agents, Wed Nov 11 2026. No macro, syntax, notation, axiom, sorry.
-/
import Derived.Test.YtloakdiioaodaaaChecked
import GoSem.Claim
import GoSem.ClaimJoined
import GoSem.ClaimMapViews
import Derived.JoinedTies
import Derived.KernelRfl
namespace Go.Proofs.Ytloakdiioaodaaa
/- THE CELL 'sum', in the pinned program and in every row, IS THE sha256 OF THE DUMP (.gsa) THAT YtloakdiioaodaaaProg.lean LOADS. Nothing in Lean hashes anything: it is a label: what it is worth is what the hold of that sum in a sandbox is worth. -/
noncomputable def Try.pinned : Pinned := { name := "ytloakdiioaodaaa", sum := "9a8a33b4f6540f2af30874bf78826cc2ec18ee75303e911fd8162f83216d6642", checked := Try.checked }
namespace Rows
def none {H : Type} : Left H := { results := [], args := [] }

/-- 'firkinlaw35.SiftMay': WHATEVER THE INPUT: true; the input reads as it did. -/
def siftMaySpec : ChangeSpec := { name := "siftMay", fn := fun _ => fun
  | [d1, d2] => { results := [.lit (.bool true)], args := [d1, d2] }
  | _ => none }
def siftMayRow : OpenClaim := { program := "ytloakdiioaodaaa", sum := "9a8a33b4f6540f2af30874bf78826cc2ec18ee75303e911fd8162f83216d6642", func := "firkin/firkinlaw35.SiftMay", spec := "siftMay", inPlace := ["internal/bytealg.IndexByteString", "internal/bytealg.IndexString"], unfollowed := true, recurses := true, named := ["internal/bytealg.MaxLen"], apart := false }
def SiftMaySaid : Prop := siftMayRow.holds Try.pinned (OpenSpec.ofChange siftMaySpec)

/-- ITS FALSE NEIGHBOUR: 'it returns false'. Refute it at one input. -/
def siftMayWrong : ChangeSpec := { name := "siftMay", fn := fun _ => fun
  | [d1, d2] => { results := [.lit (.bool false)], args := [d1, d2] }
  | _ => none }
def SiftMayWrongFalsely : Prop := siftMayRow.holds Try.pinned (OpenSpec.ofChange siftMayWrong)

/-- 'firkinlaw35.SiftSound': WHATEVER THE INPUT: true; the input reads as it did. -/
def siftSoundSpec : ChangeSpec := { name := "siftSound", fn := fun _ => fun
  | [d1, d2, d3, d4] => { results := [.lit (.bool true)], args := [d1, d2, d3, d4] }
  | _ => none }
def siftSoundRow : OpenClaim := { program := "ytloakdiioaodaaa", sum := "9a8a33b4f6540f2af30874bf78826cc2ec18ee75303e911fd8162f83216d6642", func := "firkin/firkinlaw35.SiftSound", spec := "siftSound", inPlace := ["internal/bytealg.IndexByteString", "internal/bytealg.IndexString"], unfollowed := true, recurses := true, named := ["internal/bytealg.MaxLen"], apart := false }
def SiftSoundSaid : Prop := siftSoundRow.holds Try.pinned (OpenSpec.ofChange siftSoundSpec)

/-- ITS FALSE NEIGHBOUR: 'it returns false'. Refute it at one input. -/
def siftSoundWrong : ChangeSpec := { name := "siftSound", fn := fun _ => fun
  | [d1, d2, d3, d4] => { results := [.lit (.bool false)], args := [d1, d2, d3, d4] }
  | _ => none }
def SiftSoundWrongFalsely : Prop := siftSoundRow.holds Try.pinned (OpenSpec.ofChange siftSoundWrong)

/-- 'firkinlaw11.ToksWrites': WHATEVER THE INPUT: true; the input reads as it did. -/
def toksWritesSpec : ChangeSpec := { name := "toksWrites", fn := fun _ => fun
  | [d] => { results := [.lit (.bool true)], args := [d] }
  | _ => none }
def toksWritesRow : OpenClaim := { program := "ytloakdiioaodaaa", sum := "9a8a33b4f6540f2af30874bf78826cc2ec18ee75303e911fd8162f83216d6642", func := "firkin/firkinlaw11.ToksWrites", spec := "toksWrites", unfollowed := true, recurses := true, apart := false }
def ToksWritesSaid : Prop := toksWritesRow.holds Try.pinned (OpenSpec.ofChange toksWritesSpec)

/-- ITS FALSE NEIGHBOUR: 'it returns false'. Refute it at one input. -/
def toksWritesWrong : ChangeSpec := { name := "toksWrites", fn := fun _ => fun
  | [d] => { results := [.lit (.bool false)], args := [d] }
  | _ => none }
def ToksWritesWrongFalsely : Prop := toksWritesRow.holds Try.pinned (OpenSpec.ofChange toksWritesWrong)

/-- 'firkinlaw11.ToksBack': WHATEVER THE INPUT: true; the input reads as it did. -/
def toksBackSpec : ChangeSpec := { name := "toksBack", fn := fun _ => fun
  | [d] => { results := [.lit (.bool true)], args := [d] }
  | _ => none }
def toksBackRow : OpenClaim := { program := "ytloakdiioaodaaa", sum := "9a8a33b4f6540f2af30874bf78826cc2ec18ee75303e911fd8162f83216d6642", func := "firkin/firkinlaw11.ToksBack", spec := "toksBack", unfollowed := true, recurses := true, apart := false }
def ToksBackSaid : Prop := toksBackRow.holds Try.pinned (OpenSpec.ofChange toksBackSpec)

/-- ITS FALSE NEIGHBOUR: 'it returns false'. Refute it at one input. -/
def toksBackWrong : ChangeSpec := { name := "toksBack", fn := fun _ => fun
  | [d] => { results := [.lit (.bool false)], args := [d] }
  | _ => none }
def ToksBackWrongFalsely : Prop := toksBackRow.holds Try.pinned (OpenSpec.ofChange toksBackWrong)

/- THE SECOND FORM. 'bulk': how many values and letters a reading holds, each counted each time it is reached (what is shared counts as often as it is met; a slice's spare places count too). A statement '..UptoSaid' is the law's where the arguments, and the package variables that the reading takes, are together of bulk at most 1048576: NARROWER than '..Said'. Prove '..Said' where nothing that the law and all that it calls make is longer than what came in: it says more and counts as full. Else prove '..UptoSaid'. A law counts once. -/
mutual
def uptoBulk {H : Type} : DataW H → Nat
  | .lit (.string bytes) => bytes.length + 1
  | .lit _ => 1
  | .nil => 1
  | .ptr d => uptoBulk d + 1
  | .slice elems spare => uptoBulkAll elems + uptoBulkAll spare + 1
  | .agg parts => uptoBulkAll parts + 1
  | .iface _ d => uptoBulk d + 1
  | .map entries => uptoBulkEntries entries + 1
  | .held _ => 1
def uptoBulkAll {H : Type} : List (DataW H) → Nat
  | [] => 0
  | d :: r => uptoBulk d + uptoBulkAll r
def uptoBulkEntries {H : Type} : List (Lit × DataW H) → Nat
  | [] => 0
  | x :: r => uptoBulkEntry x + uptoBulkEntries r
def uptoBulkEntry {H : Type} : Lit × DataW H → Nat
  | (.string bytes, d) => bytes.length + uptoBulk d + 1
  | (_, d) => uptoBulk d + 1
 end
def uptoSmall : (H : Type) → List (DataW H) → Bool := fun _ ds => decide (uptoBulkAll ds ≤ 1048576)
def OpenSpec.upto (s : _root_.Go.ChangeSpec) : _root_.Go.OpenSpec := { _root_.Go.OpenSpec.ofChange s with cond := some uptoSmall }

/-- 'firkinlaw35.SiftMay', WHERE WHAT IT READS IS OF BULK AT MOST 1048576: true; the input reads as it did. -/
def siftMayUptoRow : OpenClaim := { program := "ytloakdiioaodaaa", sum := "9a8a33b4f6540f2af30874bf78826cc2ec18ee75303e911fd8162f83216d6642", func := "firkin/firkinlaw35.SiftMay", spec := "siftMay", inPlace := ["internal/bytealg.IndexByteString", "internal/bytealg.IndexString"], unfollowed := true, recurses := true, named := ["internal/bytealg.MaxLen"], apart := false, narrowed := true }
def SiftMayUptoSaid : Prop := siftMayUptoRow.holds Try.pinned (OpenSpec.upto siftMaySpec)

/-- 'firkinlaw35.SiftSound', WHERE WHAT IT READS IS OF BULK AT MOST 1048576: true; the input reads as it did. -/
def siftSoundUptoRow : OpenClaim := { program := "ytloakdiioaodaaa", sum := "9a8a33b4f6540f2af30874bf78826cc2ec18ee75303e911fd8162f83216d6642", func := "firkin/firkinlaw35.SiftSound", spec := "siftSound", inPlace := ["internal/bytealg.IndexByteString", "internal/bytealg.IndexString"], unfollowed := true, recurses := true, named := ["internal/bytealg.MaxLen"], apart := false, narrowed := true }
def SiftSoundUptoSaid : Prop := siftSoundUptoRow.holds Try.pinned (OpenSpec.upto siftSoundSpec)

/-- 'firkinlaw11.ToksWrites', WHERE WHAT IT READS IS OF BULK AT MOST 1048576: true; the input reads as it did. -/
def toksWritesUptoRow : OpenClaim := { program := "ytloakdiioaodaaa", sum := "9a8a33b4f6540f2af30874bf78826cc2ec18ee75303e911fd8162f83216d6642", func := "firkin/firkinlaw11.ToksWrites", spec := "toksWrites", unfollowed := true, recurses := true, apart := false, narrowed := true }
def ToksWritesUptoSaid : Prop := toksWritesUptoRow.holds Try.pinned (OpenSpec.upto toksWritesSpec)

/-- 'firkinlaw11.ToksBack', WHERE WHAT IT READS IS OF BULK AT MOST 1048576: true; the input reads as it did. -/
def toksBackUptoRow : OpenClaim := { program := "ytloakdiioaodaaa", sum := "9a8a33b4f6540f2af30874bf78826cc2ec18ee75303e911fd8162f83216d6642", func := "firkin/firkinlaw11.ToksBack", spec := "toksBack", unfollowed := true, recurses := true, apart := false, narrowed := true }
def ToksBackUptoSaid : Prop := toksBackUptoRow.holds Try.pinned (OpenSpec.upto toksBackSpec)

end Rows
end Go.Proofs.Ytloakdiioaodaaa
