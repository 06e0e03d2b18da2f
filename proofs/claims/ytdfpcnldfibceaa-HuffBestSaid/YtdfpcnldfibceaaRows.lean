/-
  No cell of these rows narrows 'for every input' (looked for: loops, veiled, ifaces, maps, wideKeys, modest, calm, conditions, laid).
  DERIVED. THE GIVEN ROWS OF THIS SEAT. 26 by the template 'for every input the law returns true; each argument reads behind the call as it read before'; 0 by the template 'total and deterministic' (their statements: YtdfpcnldfibceaaTotals.lean).
  GIVEN WITH THE SEED: the statements are not yours to turn. If you find one false, say at which input.
  Laid BY PROGRAM, IN A SANDBOX (cutbox-rows.mjs): the forced cells as the released guide's own fill.sh prints them over the translation c9e4043bcf57161d… (all of the seat's roots in one cut). By AI agents, Wed Nov 11 2026. No macro, syntax, notation, axiom, sorry.
-/
import Derived.Test.YtdfpcnldfibceaaChecked
import GoSem.Claim
import GoSem.ClaimJoined
import GoSem.ClaimMapViews
import Derived.JoinedTies
import Derived.KernelRfl
namespace Go.Proofs.Ytdfpcnldfibceaa
/- THE CELL 'sum', in the pinned program and in every row, IS THE sha256 OF THE DUMP (.gsa) THAT YtdfpcnldfibceaaProg.lean LOADS. Nothing in Lean hashes anything: it is a label: what it is worth is what the hold of that sum in a sandbox is worth. -/
noncomputable def Try.pinned : Pinned := { name := "ytdfpcnldfibceaa", sum := "c9e4043bcf57161db43051411f8ff9e1338806e07eb6993fe4e6bc0d3184c24e", checked := Try.checked }
namespace Rows
def none {H : Type} : Left H := { results := [], args := [] }

/-- 'firkinlaw36.DiffFinds': WHATEVER THE INPUT: true; the input reads as it did. -/
def diffFindsSpec : ChangeSpec := { name := "diffFinds", fn := fun _ => fun
  | [d1, d2] => { results := [.lit (.bool true)], args := [d1, d2] }
  | _ => none }
def diffFindsRow : OpenClaim := { program := "ytdfpcnldfibceaa", sum := "c9e4043bcf57161db43051411f8ff9e1338806e07eb6993fe4e6bc0d3184c24e", func := "firkin/firkinlaw36.DiffFinds", spec := "diffFinds", unfollowed := true, recurses := true, apart := false }
def DiffFindsSaid : Prop := diffFindsRow.holds Try.pinned (OpenSpec.ofChange diffFindsSpec)

/-- ITS FALSE NEIGHBOUR: 'it returns false'. Refute it at one input. -/
def diffFindsWrong : ChangeSpec := { name := "diffFinds", fn := fun _ => fun
  | [d1, d2] => { results := [.lit (.bool false)], args := [d1, d2] }
  | _ => none }
def DiffFindsWrongFalsely : Prop := diffFindsRow.holds Try.pinned (OpenSpec.ofChange diffFindsWrong)

/-- 'firkinlaw36.DiffLimits': WHATEVER THE INPUT: true; the input reads as it did. -/
def diffLimitsSpec : ChangeSpec := { name := "diffLimits", fn := fun _ => fun
  | [d1, d2] => { results := [.lit (.bool true)], args := [d1, d2] }
  | _ => none }
def diffLimitsRow : OpenClaim := { program := "ytdfpcnldfibceaa", sum := "c9e4043bcf57161db43051411f8ff9e1338806e07eb6993fe4e6bc0d3184c24e", func := "firkin/firkinlaw36.DiffLimits", spec := "diffLimits", unfollowed := true, recurses := true, apart := false }
def DiffLimitsSaid : Prop := diffLimitsRow.holds Try.pinned (OpenSpec.ofChange diffLimitsSpec)

/-- ITS FALSE NEIGHBOUR: 'it returns false'. Refute it at one input. -/
def diffLimitsWrong : ChangeSpec := { name := "diffLimits", fn := fun _ => fun
  | [d1, d2] => { results := [.lit (.bool false)], args := [d1, d2] }
  | _ => none }
def DiffLimitsWrongFalsely : Prop := diffLimitsRow.holds Try.pinned (OpenSpec.ofChange diffLimitsWrong)

/-- 'firkinlaw11.ToksSplits': WHATEVER THE INPUT: true; the input reads as it did. -/
def toksSplitsSpec : ChangeSpec := { name := "toksSplits", fn := fun _ => fun
  | [d1, d2] => { results := [.lit (.bool true)], args := [d1, d2] }
  | _ => none }
def toksSplitsRow : OpenClaim := { program := "ytdfpcnldfibceaa", sum := "c9e4043bcf57161db43051411f8ff9e1338806e07eb6993fe4e6bc0d3184c24e", func := "firkin/firkinlaw11.ToksSplits", spec := "toksSplits", apart := false }
def ToksSplitsSaid : Prop := toksSplitsRow.holds Try.pinned (OpenSpec.ofChange toksSplitsSpec)

/-- ITS FALSE NEIGHBOUR: 'it returns false'. Refute it at one input. -/
def toksSplitsWrong : ChangeSpec := { name := "toksSplits", fn := fun _ => fun
  | [d1, d2] => { results := [.lit (.bool false)], args := [d1, d2] }
  | _ => none }
def ToksSplitsWrongFalsely : Prop := toksSplitsRow.holds Try.pinned (OpenSpec.ofChange toksSplitsWrong)

/-- 'firkinlaw11.ToksJoins': WHATEVER THE INPUT: true; the input reads as it did. -/
def toksJoinsSpec : ChangeSpec := { name := "toksJoins", fn := fun _ => fun
  | [d1, d2] => { results := [.lit (.bool true)], args := [d1, d2] }
  | _ => none }
def toksJoinsRow : OpenClaim := { program := "ytdfpcnldfibceaa", sum := "c9e4043bcf57161db43051411f8ff9e1338806e07eb6993fe4e6bc0d3184c24e", func := "firkin/firkinlaw11.ToksJoins", spec := "toksJoins", apart := false }
def ToksJoinsSaid : Prop := toksJoinsRow.holds Try.pinned (OpenSpec.ofChange toksJoinsSpec)

/-- ITS FALSE NEIGHBOUR: 'it returns false'. Refute it at one input. -/
def toksJoinsWrong : ChangeSpec := { name := "toksJoins", fn := fun _ => fun
  | [d1, d2] => { results := [.lit (.bool false)], args := [d1, d2] }
  | _ => none }
def ToksJoinsWrongFalsely : Prop := toksJoinsRow.holds Try.pinned (OpenSpec.ofChange toksJoinsWrong)

/-- 'firkinlaw11.ToksCounts': WHATEVER THE INPUT: true; the input reads as it did. -/
def toksCountsSpec : ChangeSpec := { name := "toksCounts", fn := fun _ => fun
  | [d] => { results := [.lit (.bool true)], args := [d] }
  | _ => none }
def toksCountsRow : OpenClaim := { program := "ytdfpcnldfibceaa", sum := "c9e4043bcf57161db43051411f8ff9e1338806e07eb6993fe4e6bc0d3184c24e", func := "firkin/firkinlaw11.ToksCounts", spec := "toksCounts", apart := false }
def ToksCountsSaid : Prop := toksCountsRow.holds Try.pinned (OpenSpec.ofChange toksCountsSpec)

/-- ITS FALSE NEIGHBOUR: 'it returns false'. Refute it at one input. -/
def toksCountsWrong : ChangeSpec := { name := "toksCounts", fn := fun _ => fun
  | [d] => { results := [.lit (.bool false)], args := [d] }
  | _ => none }
def ToksCountsWrongFalsely : Prop := toksCountsRow.holds Try.pinned (OpenSpec.ofChange toksCountsWrong)

/-- 'firkinlaw36.DiffLeast': WHATEVER THE INPUT: true; the input reads as it did. -/
def diffLeastSpec : ChangeSpec := { name := "diffLeast", fn := fun _ => fun
  | [d1, d2] => { results := [.lit (.bool true)], args := [d1, d2] }
  | _ => none }
def diffLeastRow : OpenClaim := { program := "ytdfpcnldfibceaa", sum := "c9e4043bcf57161db43051411f8ff9e1338806e07eb6993fe4e6bc0d3184c24e", func := "firkin/firkinlaw36.DiffLeast", spec := "diffLeast", unfollowed := true, recurses := true, apart := false }
def DiffLeastSaid : Prop := diffLeastRow.holds Try.pinned (OpenSpec.ofChange diffLeastSpec)

/-- ITS FALSE NEIGHBOUR: 'it returns false'. Refute it at one input. -/
def diffLeastWrong : ChangeSpec := { name := "diffLeast", fn := fun _ => fun
  | [d1, d2] => { results := [.lit (.bool false)], args := [d1, d2] }
  | _ => none }
def DiffLeastWrongFalsely : Prop := diffLeastRow.holds Try.pinned (OpenSpec.ofChange diffLeastWrong)

/-- 'firkinlaw09.HuffCoders': WHATEVER THE INPUT: true; the input reads as it did. -/
def huffCodersSpec : ChangeSpec := { name := "huffCoders", fn := fun _ => fun
  | [d1, d2] => { results := [.lit (.bool true)], args := [d1, d2] }
  | _ => none }
def huffCodersRow : OpenClaim := { program := "ytdfpcnldfibceaa", sum := "c9e4043bcf57161db43051411f8ff9e1338806e07eb6993fe4e6bc0d3184c24e", func := "firkin/firkinlaw09.HuffCoders", spec := "huffCoders", apart := false }
def HuffCodersSaid : Prop := huffCodersRow.holds Try.pinned (OpenSpec.ofChange huffCodersSpec)

/-- ITS FALSE NEIGHBOUR: 'it returns false'. Refute it at one input. -/
def huffCodersWrong : ChangeSpec := { name := "huffCoders", fn := fun _ => fun
  | [d1, d2] => { results := [.lit (.bool false)], args := [d1, d2] }
  | _ => none }
def HuffCodersWrongFalsely : Prop := huffCodersRow.holds Try.pinned (OpenSpec.ofChange huffCodersWrong)

/-- 'firkinlaw09.HuffPacks': WHATEVER THE INPUT: true; the input reads as it did. -/
def huffPacksSpec : ChangeSpec := { name := "huffPacks", fn := fun _ => fun
  | [d1, d2] => { results := [.lit (.bool true)], args := [d1, d2] }
  | _ => none }
def huffPacksRow : OpenClaim := { program := "ytdfpcnldfibceaa", sum := "c9e4043bcf57161db43051411f8ff9e1338806e07eb6993fe4e6bc0d3184c24e", func := "firkin/firkinlaw09.HuffPacks", spec := "huffPacks", apart := false }
def HuffPacksSaid : Prop := huffPacksRow.holds Try.pinned (OpenSpec.ofChange huffPacksSpec)

/-- ITS FALSE NEIGHBOUR: 'it returns false'. Refute it at one input. -/
def huffPacksWrong : ChangeSpec := { name := "huffPacks", fn := fun _ => fun
  | [d1, d2] => { results := [.lit (.bool false)], args := [d1, d2] }
  | _ => none }
def HuffPacksWrongFalsely : Prop := huffPacksRow.holds Try.pinned (OpenSpec.ofChange huffPacksWrong)

/-- 'firkinlaw36.DiffTurns': WHATEVER THE INPUT: true; the input reads as it did. -/
def diffTurnsSpec : ChangeSpec := { name := "diffTurns", fn := fun _ => fun
  | [d1, d2] => { results := [.lit (.bool true)], args := [d1, d2] }
  | _ => none }
def diffTurnsRow : OpenClaim := { program := "ytdfpcnldfibceaa", sum := "c9e4043bcf57161db43051411f8ff9e1338806e07eb6993fe4e6bc0d3184c24e", func := "firkin/firkinlaw36.DiffTurns", spec := "diffTurns", unfollowed := true, recurses := true, apart := false }
def DiffTurnsSaid : Prop := diffTurnsRow.holds Try.pinned (OpenSpec.ofChange diffTurnsSpec)

/-- ITS FALSE NEIGHBOUR: 'it returns false'. Refute it at one input. -/
def diffTurnsWrong : ChangeSpec := { name := "diffTurns", fn := fun _ => fun
  | [d1, d2] => { results := [.lit (.bool false)], args := [d1, d2] }
  | _ => none }
def DiffTurnsWrongFalsely : Prop := diffTurnsRow.holds Try.pinned (OpenSpec.ofChange diffTurnsWrong)

/-- 'firkinlaw09.HuffGets': WHATEVER THE INPUT: true; the input reads as it did. -/
def huffGetsSpec : ChangeSpec := { name := "huffGets", fn := fun _ => fun
  | [d1, d2, d3, d4] => { results := [.lit (.bool true)], args := [d1, d2, d3, d4] }
  | _ => none }
def huffGetsRow : OpenClaim := { program := "ytdfpcnldfibceaa", sum := "c9e4043bcf57161db43051411f8ff9e1338806e07eb6993fe4e6bc0d3184c24e", func := "firkin/firkinlaw09.HuffGets", spec := "huffGets", apart := false }
def HuffGetsSaid : Prop := huffGetsRow.holds Try.pinned (OpenSpec.ofChange huffGetsSpec)

/-- ITS FALSE NEIGHBOUR: 'it returns false'. Refute it at one input. -/
def huffGetsWrong : ChangeSpec := { name := "huffGets", fn := fun _ => fun
  | [d1, d2, d3, d4] => { results := [.lit (.bool false)], args := [d1, d2, d3, d4] }
  | _ => none }
def HuffGetsWrongFalsely : Prop := huffGetsRow.holds Try.pinned (OpenSpec.ofChange huffGetsWrong)

/-- 'firkinlaw09.HuffNone': WHATEVER THE INPUT: true; the input reads as it did. -/
def huffNoneSpec : ChangeSpec := { name := "huffNone", fn := fun _ => fun
  | [d1, d2] => { results := [.lit (.bool true)], args := [d1, d2] }
  | _ => none }
def huffNoneRow : OpenClaim := { program := "ytdfpcnldfibceaa", sum := "c9e4043bcf57161db43051411f8ff9e1338806e07eb6993fe4e6bc0d3184c24e", func := "firkin/firkinlaw09.HuffNone", spec := "huffNone", apart := false }
def HuffNoneSaid : Prop := huffNoneRow.holds Try.pinned (OpenSpec.ofChange huffNoneSpec)

/-- ITS FALSE NEIGHBOUR: 'it returns false'. Refute it at one input. -/
def huffNoneWrong : ChangeSpec := { name := "huffNone", fn := fun _ => fun
  | [d1, d2] => { results := [.lit (.bool false)], args := [d1, d2] }
  | _ => none }
def HuffNoneWrongFalsely : Prop := huffNoneRow.holds Try.pinned (OpenSpec.ofChange huffNoneWrong)

/-- 'firkinlaw35.SiftMay': WHATEVER THE INPUT: true; the input reads as it did. -/
def siftMaySpec : ChangeSpec := { name := "siftMay", fn := fun _ => fun
  | [d1, d2] => { results := [.lit (.bool true)], args := [d1, d2] }
  | _ => none }
def siftMayRow : OpenClaim := { program := "ytdfpcnldfibceaa", sum := "c9e4043bcf57161db43051411f8ff9e1338806e07eb6993fe4e6bc0d3184c24e", func := "firkin/firkinlaw35.SiftMay", spec := "siftMay", inPlace := ["internal/bytealg.IndexByteString", "internal/bytealg.IndexString"], unfollowed := true, recurses := true, named := ["internal/bytealg.MaxLen"], apart := false }
def SiftMaySaid : Prop := siftMayRow.holds Try.pinned (OpenSpec.ofChange siftMaySpec)

/-- ITS FALSE NEIGHBOUR: 'it returns false'. Refute it at one input. -/
def siftMayWrong : ChangeSpec := { name := "siftMay", fn := fun _ => fun
  | [d1, d2] => { results := [.lit (.bool false)], args := [d1, d2] }
  | _ => none }
def SiftMayWrongFalsely : Prop := siftMayRow.holds Try.pinned (OpenSpec.ofChange siftMayWrong)

/-- 'firkinlaw35.SiftSound': WHATEVER THE INPUT: true; the input reads as it did. -/
def siftSoundSpec : ChangeSpec := { name := "siftSound", fn := fun _ => fun
  | [d1, d2, d3, d4] => { results := [.lit (.bool true)], args := [d1, d2, d3, d4] }
  | _ => none }
def siftSoundRow : OpenClaim := { program := "ytdfpcnldfibceaa", sum := "c9e4043bcf57161db43051411f8ff9e1338806e07eb6993fe4e6bc0d3184c24e", func := "firkin/firkinlaw35.SiftSound", spec := "siftSound", inPlace := ["internal/bytealg.IndexByteString", "internal/bytealg.IndexString"], unfollowed := true, recurses := true, named := ["internal/bytealg.MaxLen"], apart := false }
def SiftSoundSaid : Prop := siftSoundRow.holds Try.pinned (OpenSpec.ofChange siftSoundSpec)

/-- ITS FALSE NEIGHBOUR: 'it returns false'. Refute it at one input. -/
def siftSoundWrong : ChangeSpec := { name := "siftSound", fn := fun _ => fun
  | [d1, d2, d3, d4] => { results := [.lit (.bool false)], args := [d1, d2, d3, d4] }
  | _ => none }
def SiftSoundWrongFalsely : Prop := siftSoundRow.holds Try.pinned (OpenSpec.ofChange siftSoundWrong)

/-- 'firkinlaw07.LensFinds': WHATEVER THE INPUT: true; the input reads as it did. -/
def lensFindsSpec : ChangeSpec := { name := "lensFinds", fn := fun _ => fun
  | [d1, d2] => { results := [.lit (.bool true)], args := [d1, d2] }
  | _ => none }
def lensFindsRow : OpenClaim := { program := "ytdfpcnldfibceaa", sum := "c9e4043bcf57161db43051411f8ff9e1338806e07eb6993fe4e6bc0d3184c24e", func := "firkin/firkinlaw07.LensFinds", spec := "lensFinds", unfollowed := true, recurses := true, apart := false }
def LensFindsSaid : Prop := lensFindsRow.holds Try.pinned (OpenSpec.ofChange lensFindsSpec)

/-- ITS FALSE NEIGHBOUR: 'it returns false'. Refute it at one input. -/
def lensFindsWrong : ChangeSpec := { name := "lensFinds", fn := fun _ => fun
  | [d1, d2] => { results := [.lit (.bool false)], args := [d1, d2] }
  | _ => none }
def LensFindsWrongFalsely : Prop := lensFindsRow.holds Try.pinned (OpenSpec.ofChange lensFindsWrong)

/-- 'firkinlaw07.LensRare': WHATEVER THE INPUT: true; the input reads as it did. -/
def lensRareSpec : ChangeSpec := { name := "lensRare", fn := fun _ => fun
  | [d1, d2, d3, d4] => { results := [.lit (.bool true)], args := [d1, d2, d3, d4] }
  | _ => none }
def lensRareRow : OpenClaim := { program := "ytdfpcnldfibceaa", sum := "c9e4043bcf57161db43051411f8ff9e1338806e07eb6993fe4e6bc0d3184c24e", func := "firkin/firkinlaw07.LensRare", spec := "lensRare", unfollowed := true, recurses := true, apart := false }
def LensRareSaid : Prop := lensRareRow.holds Try.pinned (OpenSpec.ofChange lensRareSpec)

/-- ITS FALSE NEIGHBOUR: 'it returns false'. Refute it at one input. -/
def lensRareWrong : ChangeSpec := { name := "lensRare", fn := fun _ => fun
  | [d1, d2, d3, d4] => { results := [.lit (.bool false)], args := [d1, d2, d3, d4] }
  | _ => none }
def LensRareWrongFalsely : Prop := lensRareRow.holds Try.pinned (OpenSpec.ofChange lensRareWrong)

/-- 'firkinlaw09.HuffUnpacks': WHATEVER THE INPUT: true; the input reads as it did. -/
def huffUnpacksSpec : ChangeSpec := { name := "huffUnpacks", fn := fun _ => fun
  | [d1, d2, d3] => { results := [.lit (.bool true)], args := [d1, d2, d3] }
  | _ => none }
def huffUnpacksRow : OpenClaim := { program := "ytdfpcnldfibceaa", sum := "c9e4043bcf57161db43051411f8ff9e1338806e07eb6993fe4e6bc0d3184c24e", func := "firkin/firkinlaw09.HuffUnpacks", spec := "huffUnpacks", apart := false }
def HuffUnpacksSaid : Prop := huffUnpacksRow.holds Try.pinned (OpenSpec.ofChange huffUnpacksSpec)

/-- ITS FALSE NEIGHBOUR: 'it returns false'. Refute it at one input. -/
def huffUnpacksWrong : ChangeSpec := { name := "huffUnpacks", fn := fun _ => fun
  | [d1, d2, d3] => { results := [.lit (.bool false)], args := [d1, d2, d3] }
  | _ => none }
def HuffUnpacksWrongFalsely : Prop := huffUnpacksRow.holds Try.pinned (OpenSpec.ofChange huffUnpacksWrong)

/-- 'firkinlaw09.HuffBack': WHATEVER THE INPUT: true; the input reads as it did. -/
def huffBackSpec : ChangeSpec := { name := "huffBack", fn := fun _ => fun
  | [d1, d2] => { results := [.lit (.bool true)], args := [d1, d2] }
  | _ => none }
def huffBackRow : OpenClaim := { program := "ytdfpcnldfibceaa", sum := "c9e4043bcf57161db43051411f8ff9e1338806e07eb6993fe4e6bc0d3184c24e", func := "firkin/firkinlaw09.HuffBack", spec := "huffBack", apart := false }
def HuffBackSaid : Prop := huffBackRow.holds Try.pinned (OpenSpec.ofChange huffBackSpec)

/-- ITS FALSE NEIGHBOUR: 'it returns false'. Refute it at one input. -/
def huffBackWrong : ChangeSpec := { name := "huffBack", fn := fun _ => fun
  | [d1, d2] => { results := [.lit (.bool false)], args := [d1, d2] }
  | _ => none }
def HuffBackWrongFalsely : Prop := huffBackRow.holds Try.pinned (OpenSpec.ofChange huffBackWrong)

/-- 'firkinlaw07.LensBest': WHATEVER THE INPUT: true; the input reads as it did. -/
def lensBestSpec : ChangeSpec := { name := "lensBest", fn := fun _ => fun
  | [d1, d2, d3] => { results := [.lit (.bool true)], args := [d1, d2, d3] }
  | _ => none }
def lensBestRow : OpenClaim := { program := "ytdfpcnldfibceaa", sum := "c9e4043bcf57161db43051411f8ff9e1338806e07eb6993fe4e6bc0d3184c24e", func := "firkin/firkinlaw07.LensBest", spec := "lensBest", unfollowed := true, recurses := true, apart := false }
def LensBestSaid : Prop := lensBestRow.holds Try.pinned (OpenSpec.ofChange lensBestSpec)

/-- ITS FALSE NEIGHBOUR: 'it returns false'. Refute it at one input. -/
def lensBestWrong : ChangeSpec := { name := "lensBest", fn := fun _ => fun
  | [d1, d2, d3] => { results := [.lit (.bool false)], args := [d1, d2, d3] }
  | _ => none }
def LensBestWrongFalsely : Prop := lensBestRow.holds Try.pinned (OpenSpec.ofChange lensBestWrong)

/-- 'firkinlaw07.LensMore': WHATEVER THE INPUT: true; the input reads as it did. -/
def lensMoreSpec : ChangeSpec := { name := "lensMore", fn := fun _ => fun
  | [d1, d2] => { results := [.lit (.bool true)], args := [d1, d2] }
  | _ => none }
def lensMoreRow : OpenClaim := { program := "ytdfpcnldfibceaa", sum := "c9e4043bcf57161db43051411f8ff9e1338806e07eb6993fe4e6bc0d3184c24e", func := "firkin/firkinlaw07.LensMore", spec := "lensMore", unfollowed := true, recurses := true, apart := false }
def LensMoreSaid : Prop := lensMoreRow.holds Try.pinned (OpenSpec.ofChange lensMoreSpec)

/-- ITS FALSE NEIGHBOUR: 'it returns false'. Refute it at one input. -/
def lensMoreWrong : ChangeSpec := { name := "lensMore", fn := fun _ => fun
  | [d1, d2] => { results := [.lit (.bool false)], args := [d1, d2] }
  | _ => none }
def LensMoreWrongFalsely : Prop := lensMoreRow.holds Try.pinned (OpenSpec.ofChange lensMoreWrong)

/-- 'firkinlaw07.LensFull': WHATEVER THE INPUT: true; the input reads as it did. -/
def lensFullSpec : ChangeSpec := { name := "lensFull", fn := fun _ => fun
  | [d1, d2] => { results := [.lit (.bool true)], args := [d1, d2] }
  | _ => none }
def lensFullRow : OpenClaim := { program := "ytdfpcnldfibceaa", sum := "c9e4043bcf57161db43051411f8ff9e1338806e07eb6993fe4e6bc0d3184c24e", func := "firkin/firkinlaw07.LensFull", spec := "lensFull", unfollowed := true, recurses := true, apart := false }
def LensFullSaid : Prop := lensFullRow.holds Try.pinned (OpenSpec.ofChange lensFullSpec)

/-- ITS FALSE NEIGHBOUR: 'it returns false'. Refute it at one input. -/
def lensFullWrong : ChangeSpec := { name := "lensFull", fn := fun _ => fun
  | [d1, d2] => { results := [.lit (.bool false)], args := [d1, d2] }
  | _ => none }
def LensFullWrongFalsely : Prop := lensFullRow.holds Try.pinned (OpenSpec.ofChange lensFullWrong)

/-- 'firkinlaw07.LensWeighs': WHATEVER THE INPUT: true; the input reads as it did. -/
def lensWeighsSpec : ChangeSpec := { name := "lensWeighs", fn := fun _ => fun
  | [d1, d2] => { results := [.lit (.bool true)], args := [d1, d2] }
  | _ => none }
def lensWeighsRow : OpenClaim := { program := "ytdfpcnldfibceaa", sum := "c9e4043bcf57161db43051411f8ff9e1338806e07eb6993fe4e6bc0d3184c24e", func := "firkin/firkinlaw07.LensWeighs", spec := "lensWeighs", unfollowed := true, recurses := true, apart := false }
def LensWeighsSaid : Prop := lensWeighsRow.holds Try.pinned (OpenSpec.ofChange lensWeighsSpec)

/-- ITS FALSE NEIGHBOUR: 'it returns false'. Refute it at one input. -/
def lensWeighsWrong : ChangeSpec := { name := "lensWeighs", fn := fun _ => fun
  | [d1, d2] => { results := [.lit (.bool false)], args := [d1, d2] }
  | _ => none }
def LensWeighsWrongFalsely : Prop := lensWeighsRow.holds Try.pinned (OpenSpec.ofChange lensWeighsWrong)

/-- 'firkinlaw11.ToksReads': WHATEVER THE INPUT: true; the input reads as it did. -/
def toksReadsSpec : ChangeSpec := { name := "toksReads", fn := fun _ => fun
  | [d1, d2] => { results := [.lit (.bool true)], args := [d1, d2] }
  | _ => none }
def toksReadsRow : OpenClaim := { program := "ytdfpcnldfibceaa", sum := "c9e4043bcf57161db43051411f8ff9e1338806e07eb6993fe4e6bc0d3184c24e", func := "firkin/firkinlaw11.ToksReads", spec := "toksReads", apart := false }
def ToksReadsSaid : Prop := toksReadsRow.holds Try.pinned (OpenSpec.ofChange toksReadsSpec)

/-- ITS FALSE NEIGHBOUR: 'it returns false'. Refute it at one input. -/
def toksReadsWrong : ChangeSpec := { name := "toksReads", fn := fun _ => fun
  | [d1, d2] => { results := [.lit (.bool false)], args := [d1, d2] }
  | _ => none }
def ToksReadsWrongFalsely : Prop := toksReadsRow.holds Try.pinned (OpenSpec.ofChange toksReadsWrong)

/-- 'firkinlaw11.ToksMay': WHATEVER THE INPUT: true; the input reads as it did. -/
def toksMaySpec : ChangeSpec := { name := "toksMay", fn := fun _ => fun
  | [d1, d2] => { results := [.lit (.bool true)], args := [d1, d2] }
  | _ => none }
def toksMayRow : OpenClaim := { program := "ytdfpcnldfibceaa", sum := "c9e4043bcf57161db43051411f8ff9e1338806e07eb6993fe4e6bc0d3184c24e", func := "firkin/firkinlaw11.ToksMay", spec := "toksMay", apart := false }
def ToksMaySaid : Prop := toksMayRow.holds Try.pinned (OpenSpec.ofChange toksMaySpec)

/-- ITS FALSE NEIGHBOUR: 'it returns false'. Refute it at one input. -/
def toksMayWrong : ChangeSpec := { name := "toksMay", fn := fun _ => fun
  | [d1, d2] => { results := [.lit (.bool false)], args := [d1, d2] }
  | _ => none }
def ToksMayWrongFalsely : Prop := toksMayRow.holds Try.pinned (OpenSpec.ofChange toksMayWrong)

/-- 'firkinlaw09.HuffBest': WHATEVER THE INPUT: true; the input reads as it did. -/
def huffBestSpec : ChangeSpec := { name := "huffBest", fn := fun _ => fun
  | [d1, d2] => { results := [.lit (.bool true)], args := [d1, d2] }
  | _ => none }
def huffBestRow : OpenClaim := { program := "ytdfpcnldfibceaa", sum := "c9e4043bcf57161db43051411f8ff9e1338806e07eb6993fe4e6bc0d3184c24e", func := "firkin/firkinlaw09.HuffBest", spec := "huffBest", unfollowed := true, recurses := true, apart := false }
def HuffBestSaid : Prop := huffBestRow.holds Try.pinned (OpenSpec.ofChange huffBestSpec)

/-- ITS FALSE NEIGHBOUR: 'it returns false'. Refute it at one input. -/
def huffBestWrong : ChangeSpec := { name := "huffBest", fn := fun _ => fun
  | [d1, d2] => { results := [.lit (.bool false)], args := [d1, d2] }
  | _ => none }
def HuffBestWrongFalsely : Prop := huffBestRow.holds Try.pinned (OpenSpec.ofChange huffBestWrong)

/-- 'firkinlaw11.ToksWrites': WHATEVER THE INPUT: true; the input reads as it did. -/
def toksWritesSpec : ChangeSpec := { name := "toksWrites", fn := fun _ => fun
  | [d] => { results := [.lit (.bool true)], args := [d] }
  | _ => none }
def toksWritesRow : OpenClaim := { program := "ytdfpcnldfibceaa", sum := "c9e4043bcf57161db43051411f8ff9e1338806e07eb6993fe4e6bc0d3184c24e", func := "firkin/firkinlaw11.ToksWrites", spec := "toksWrites", unfollowed := true, recurses := true, apart := false }
def ToksWritesSaid : Prop := toksWritesRow.holds Try.pinned (OpenSpec.ofChange toksWritesSpec)

/-- ITS FALSE NEIGHBOUR: 'it returns false'. Refute it at one input. -/
def toksWritesWrong : ChangeSpec := { name := "toksWrites", fn := fun _ => fun
  | [d] => { results := [.lit (.bool false)], args := [d] }
  | _ => none }
def ToksWritesWrongFalsely : Prop := toksWritesRow.holds Try.pinned (OpenSpec.ofChange toksWritesWrong)

/-- 'firkinlaw11.ToksBack': WHATEVER THE INPUT: true; the input reads as it did. -/
def toksBackSpec : ChangeSpec := { name := "toksBack", fn := fun _ => fun
  | [d] => { results := [.lit (.bool true)], args := [d] }
  | _ => none }
def toksBackRow : OpenClaim := { program := "ytdfpcnldfibceaa", sum := "c9e4043bcf57161db43051411f8ff9e1338806e07eb6993fe4e6bc0d3184c24e", func := "firkin/firkinlaw11.ToksBack", spec := "toksBack", unfollowed := true, recurses := true, apart := false }
def ToksBackSaid : Prop := toksBackRow.holds Try.pinned (OpenSpec.ofChange toksBackSpec)

/-- ITS FALSE NEIGHBOUR: 'it returns false'. Refute it at one input. -/
def toksBackWrong : ChangeSpec := { name := "toksBack", fn := fun _ => fun
  | [d] => { results := [.lit (.bool false)], args := [d] }
  | _ => none }
def ToksBackWrongFalsely : Prop := toksBackRow.holds Try.pinned (OpenSpec.ofChange toksBackWrong)

/- THE SECOND FORM. 'bulk': how many values and letters a reading holds, each counted each time it is reached (what is shared counts as often as it is met; a slice's spare places count too). A statement '..UptoSaid' is the law's where the arguments, and the package variables that the reading takes, are together of bulk at most 1048576: NARROWER than '..Said'. Prove '..Said' where nothing that the law and all that it calls make is longer than what came in: it says more and counts as full. Else prove '..UptoSaid'. A law counts once. -/
mutual
def uptoBulk {H : Type} : DataW H → Nat
  | .lit (.string bytes) => bytes.length + 1
  | .lit _ => 1
  | .nil => 1
  | .ptr d => uptoBulk d + 1
  | .slice elems spare => uptoBulkAll elems + uptoBulkAll spare + 1
  | .agg parts => uptoBulkAll parts + 1
  | .iface _ d => uptoBulk d + 1
  | .map entries => uptoBulkEntries entries + 1
  | .held _ => 1
def uptoBulkAll {H : Type} : List (DataW H) → Nat
  | [] => 0
  | d :: r => uptoBulk d + uptoBulkAll r
def uptoBulkEntries {H : Type} : List (Lit × DataW H) → Nat
  | [] => 0
  | x :: r => uptoBulkEntry x + uptoBulkEntries r
def uptoBulkEntry {H : Type} : Lit × DataW H → Nat
  | (.string bytes, d) => bytes.length + uptoBulk d + 1
  | (_, d) => uptoBulk d + 1
 end
def uptoSmall : (H : Type) → List (DataW H) → Bool := fun _ ds => decide (uptoBulkAll ds ≤ 1048576)
def OpenSpec.upto (s : _root_.Go.ChangeSpec) : _root_.Go.OpenSpec := { _root_.Go.OpenSpec.ofChange s with cond := some uptoSmall }

/-- 'firkinlaw36.DiffFinds', WHERE WHAT IT READS IS OF BULK AT MOST 1048576: true; the input reads as it did. -/
def diffFindsUptoRow : OpenClaim := { program := "ytdfpcnldfibceaa", sum := "c9e4043bcf57161db43051411f8ff9e1338806e07eb6993fe4e6bc0d3184c24e", func := "firkin/firkinlaw36.DiffFinds", spec := "diffFinds", unfollowed := true, recurses := true, apart := false, narrowed := true }
def DiffFindsUptoSaid : Prop := diffFindsUptoRow.holds Try.pinned (OpenSpec.upto diffFindsSpec)

/-- 'firkinlaw36.DiffLimits', WHERE WHAT IT READS IS OF BULK AT MOST 1048576: true; the input reads as it did. -/
def diffLimitsUptoRow : OpenClaim := { program := "ytdfpcnldfibceaa", sum := "c9e4043bcf57161db43051411f8ff9e1338806e07eb6993fe4e6bc0d3184c24e", func := "firkin/firkinlaw36.DiffLimits", spec := "diffLimits", unfollowed := true, recurses := true, apart := false, narrowed := true }
def DiffLimitsUptoSaid : Prop := diffLimitsUptoRow.holds Try.pinned (OpenSpec.upto diffLimitsSpec)

/-- 'firkinlaw11.ToksSplits', WHERE WHAT IT READS IS OF BULK AT MOST 1048576: true; the input reads as it did. -/
def toksSplitsUptoRow : OpenClaim := { program := "ytdfpcnldfibceaa", sum := "c9e4043bcf57161db43051411f8ff9e1338806e07eb6993fe4e6bc0d3184c24e", func := "firkin/firkinlaw11.ToksSplits", spec := "toksSplits", apart := false, narrowed := true }
def ToksSplitsUptoSaid : Prop := toksSplitsUptoRow.holds Try.pinned (OpenSpec.upto toksSplitsSpec)

/-- 'firkinlaw11.ToksJoins', WHERE WHAT IT READS IS OF BULK AT MOST 1048576: true; the input reads as it did. -/
def toksJoinsUptoRow : OpenClaim := { program := "ytdfpcnldfibceaa", sum := "c9e4043bcf57161db43051411f8ff9e1338806e07eb6993fe4e6bc0d3184c24e", func := "firkin/firkinlaw11.ToksJoins", spec := "toksJoins", apart := false, narrowed := true }
def ToksJoinsUptoSaid : Prop := toksJoinsUptoRow.holds Try.pinned (OpenSpec.upto toksJoinsSpec)

/-- 'firkinlaw11.ToksCounts', WHERE WHAT IT READS IS OF BULK AT MOST 1048576: true; the input reads as it did. -/
def toksCountsUptoRow : OpenClaim := { program := "ytdfpcnldfibceaa", sum := "c9e4043bcf57161db43051411f8ff9e1338806e07eb6993fe4e6bc0d3184c24e", func := "firkin/firkinlaw11.ToksCounts", spec := "toksCounts", apart := false, narrowed := true }
def ToksCountsUptoSaid : Prop := toksCountsUptoRow.holds Try.pinned (OpenSpec.upto toksCountsSpec)

/-- 'firkinlaw36.DiffLeast', WHERE WHAT IT READS IS OF BULK AT MOST 1048576: true; the input reads as it did. -/
def diffLeastUptoRow : OpenClaim := { program := "ytdfpcnldfibceaa", sum := "c9e4043bcf57161db43051411f8ff9e1338806e07eb6993fe4e6bc0d3184c24e", func := "firkin/firkinlaw36.DiffLeast", spec := "diffLeast", unfollowed := true, recurses := true, apart := false, narrowed := true }
def DiffLeastUptoSaid : Prop := diffLeastUptoRow.holds Try.pinned (OpenSpec.upto diffLeastSpec)

/-- 'firkinlaw09.HuffCoders', WHERE WHAT IT READS IS OF BULK AT MOST 1048576: true; the input reads as it did. -/
def huffCodersUptoRow : OpenClaim := { program := "ytdfpcnldfibceaa", sum := "c9e4043bcf57161db43051411f8ff9e1338806e07eb6993fe4e6bc0d3184c24e", func := "firkin/firkinlaw09.HuffCoders", spec := "huffCoders", apart := false, narrowed := true }
def HuffCodersUptoSaid : Prop := huffCodersUptoRow.holds Try.pinned (OpenSpec.upto huffCodersSpec)

/-- 'firkinlaw09.HuffPacks', WHERE WHAT IT READS IS OF BULK AT MOST 1048576: true; the input reads as it did. -/
def huffPacksUptoRow : OpenClaim := { program := "ytdfpcnldfibceaa", sum := "c9e4043bcf57161db43051411f8ff9e1338806e07eb6993fe4e6bc0d3184c24e", func := "firkin/firkinlaw09.HuffPacks", spec := "huffPacks", apart := false, narrowed := true }
def HuffPacksUptoSaid : Prop := huffPacksUptoRow.holds Try.pinned (OpenSpec.upto huffPacksSpec)

/-- 'firkinlaw36.DiffTurns', WHERE WHAT IT READS IS OF BULK AT MOST 1048576: true; the input reads as it did. -/
def diffTurnsUptoRow : OpenClaim := { program := "ytdfpcnldfibceaa", sum := "c9e4043bcf57161db43051411f8ff9e1338806e07eb6993fe4e6bc0d3184c24e", func := "firkin/firkinlaw36.DiffTurns", spec := "diffTurns", unfollowed := true, recurses := true, apart := false, narrowed := true }
def DiffTurnsUptoSaid : Prop := diffTurnsUptoRow.holds Try.pinned (OpenSpec.upto diffTurnsSpec)

/-- 'firkinlaw09.HuffGets', WHERE WHAT IT READS IS OF BULK AT MOST 1048576: true; the input reads as it did. -/
def huffGetsUptoRow : OpenClaim := { program := "ytdfpcnldfibceaa", sum := "c9e4043bcf57161db43051411f8ff9e1338806e07eb6993fe4e6bc0d3184c24e", func := "firkin/firkinlaw09.HuffGets", spec := "huffGets", apart := false, narrowed := true }
def HuffGetsUptoSaid : Prop := huffGetsUptoRow.holds Try.pinned (OpenSpec.upto huffGetsSpec)

/-- 'firkinlaw09.HuffNone', WHERE WHAT IT READS IS OF BULK AT MOST 1048576: true; the input reads as it did. -/
def huffNoneUptoRow : OpenClaim := { program := "ytdfpcnldfibceaa", sum := "c9e4043bcf57161db43051411f8ff9e1338806e07eb6993fe4e6bc0d3184c24e", func := "firkin/firkinlaw09.HuffNone", spec := "huffNone", apart := false, narrowed := true }
def HuffNoneUptoSaid : Prop := huffNoneUptoRow.holds Try.pinned (OpenSpec.upto huffNoneSpec)

/-- 'firkinlaw35.SiftMay', WHERE WHAT IT READS IS OF BULK AT MOST 1048576: true; the input reads as it did. -/
def siftMayUptoRow : OpenClaim := { program := "ytdfpcnldfibceaa", sum := "c9e4043bcf57161db43051411f8ff9e1338806e07eb6993fe4e6bc0d3184c24e", func := "firkin/firkinlaw35.SiftMay", spec := "siftMay", inPlace := ["internal/bytealg.IndexByteString", "internal/bytealg.IndexString"], unfollowed := true, recurses := true, named := ["internal/bytealg.MaxLen"], apart := false, narrowed := true }
def SiftMayUptoSaid : Prop := siftMayUptoRow.holds Try.pinned (OpenSpec.upto siftMaySpec)

/-- 'firkinlaw35.SiftSound', WHERE WHAT IT READS IS OF BULK AT MOST 1048576: true; the input reads as it did. -/
def siftSoundUptoRow : OpenClaim := { program := "ytdfpcnldfibceaa", sum := "c9e4043bcf57161db43051411f8ff9e1338806e07eb6993fe4e6bc0d3184c24e", func := "firkin/firkinlaw35.SiftSound", spec := "siftSound", inPlace := ["internal/bytealg.IndexByteString", "internal/bytealg.IndexString"], unfollowed := true, recurses := true, named := ["internal/bytealg.MaxLen"], apart := false, narrowed := true }
def SiftSoundUptoSaid : Prop := siftSoundUptoRow.holds Try.pinned (OpenSpec.upto siftSoundSpec)

/-- 'firkinlaw07.LensFinds', WHERE WHAT IT READS IS OF BULK AT MOST 1048576: true; the input reads as it did. -/
def lensFindsUptoRow : OpenClaim := { program := "ytdfpcnldfibceaa", sum := "c9e4043bcf57161db43051411f8ff9e1338806e07eb6993fe4e6bc0d3184c24e", func := "firkin/firkinlaw07.LensFinds", spec := "lensFinds", unfollowed := true, recurses := true, apart := false, narrowed := true }
def LensFindsUptoSaid : Prop := lensFindsUptoRow.holds Try.pinned (OpenSpec.upto lensFindsSpec)

/-- 'firkinlaw07.LensRare', WHERE WHAT IT READS IS OF BULK AT MOST 1048576: true; the input reads as it did. -/
def lensRareUptoRow : OpenClaim := { program := "ytdfpcnldfibceaa", sum := "c9e4043bcf57161db43051411f8ff9e1338806e07eb6993fe4e6bc0d3184c24e", func := "firkin/firkinlaw07.LensRare", spec := "lensRare", unfollowed := true, recurses := true, apart := false, narrowed := true }
def LensRareUptoSaid : Prop := lensRareUptoRow.holds Try.pinned (OpenSpec.upto lensRareSpec)

/-- 'firkinlaw09.HuffUnpacks', WHERE WHAT IT READS IS OF BULK AT MOST 1048576: true; the input reads as it did. -/
def huffUnpacksUptoRow : OpenClaim := { program := "ytdfpcnldfibceaa", sum := "c9e4043bcf57161db43051411f8ff9e1338806e07eb6993fe4e6bc0d3184c24e", func := "firkin/firkinlaw09.HuffUnpacks", spec := "huffUnpacks", apart := false, narrowed := true }
def HuffUnpacksUptoSaid : Prop := huffUnpacksUptoRow.holds Try.pinned (OpenSpec.upto huffUnpacksSpec)

/-- 'firkinlaw09.HuffBack', WHERE WHAT IT READS IS OF BULK AT MOST 1048576: true; the input reads as it did. -/
def huffBackUptoRow : OpenClaim := { program := "ytdfpcnldfibceaa", sum := "c9e4043bcf57161db43051411f8ff9e1338806e07eb6993fe4e6bc0d3184c24e", func := "firkin/firkinlaw09.HuffBack", spec := "huffBack", apart := false, narrowed := true }
def HuffBackUptoSaid : Prop := huffBackUptoRow.holds Try.pinned (OpenSpec.upto huffBackSpec)

/-- 'firkinlaw07.LensBest', WHERE WHAT IT READS IS OF BULK AT MOST 1048576: true; the input reads as it did. -/
def lensBestUptoRow : OpenClaim := { program := "ytdfpcnldfibceaa", sum := "c9e4043bcf57161db43051411f8ff9e1338806e07eb6993fe4e6bc0d3184c24e", func := "firkin/firkinlaw07.LensBest", spec := "lensBest", unfollowed := true, recurses := true, apart := false, narrowed := true }
def LensBestUptoSaid : Prop := lensBestUptoRow.holds Try.pinned (OpenSpec.upto lensBestSpec)

/-- 'firkinlaw07.LensMore', WHERE WHAT IT READS IS OF BULK AT MOST 1048576: true; the input reads as it did. -/
def lensMoreUptoRow : OpenClaim := { program := "ytdfpcnldfibceaa", sum := "c9e4043bcf57161db43051411f8ff9e1338806e07eb6993fe4e6bc0d3184c24e", func := "firkin/firkinlaw07.LensMore", spec := "lensMore", unfollowed := true, recurses := true, apart := false, narrowed := true }
def LensMoreUptoSaid : Prop := lensMoreUptoRow.holds Try.pinned (OpenSpec.upto lensMoreSpec)

/-- 'firkinlaw07.LensFull', WHERE WHAT IT READS IS OF BULK AT MOST 1048576: true; the input reads as it did. -/
def lensFullUptoRow : OpenClaim := { program := "ytdfpcnldfibceaa", sum := "c9e4043bcf57161db43051411f8ff9e1338806e07eb6993fe4e6bc0d3184c24e", func := "firkin/firkinlaw07.LensFull", spec := "lensFull", unfollowed := true, recurses := true, apart := false, narrowed := true }
def LensFullUptoSaid : Prop := lensFullUptoRow.holds Try.pinned (OpenSpec.upto lensFullSpec)

/-- 'firkinlaw07.LensWeighs', WHERE WHAT IT READS IS OF BULK AT MOST 1048576: true; the input reads as it did. -/
def lensWeighsUptoRow : OpenClaim := { program := "ytdfpcnldfibceaa", sum := "c9e4043bcf57161db43051411f8ff9e1338806e07eb6993fe4e6bc0d3184c24e", func := "firkin/firkinlaw07.LensWeighs", spec := "lensWeighs", unfollowed := true, recurses := true, apart := false, narrowed := true }
def LensWeighsUptoSaid : Prop := lensWeighsUptoRow.holds Try.pinned (OpenSpec.upto lensWeighsSpec)

/-- 'firkinlaw11.ToksReads', WHERE WHAT IT READS IS OF BULK AT MOST 1048576: true; the input reads as it did. -/
def toksReadsUptoRow : OpenClaim := { program := "ytdfpcnldfibceaa", sum := "c9e4043bcf57161db43051411f8ff9e1338806e07eb6993fe4e6bc0d3184c24e", func := "firkin/firkinlaw11.ToksReads", spec := "toksReads", apart := false, narrowed := true }
def ToksReadsUptoSaid : Prop := toksReadsUptoRow.holds Try.pinned (OpenSpec.upto toksReadsSpec)

/-- 'firkinlaw11.ToksMay', WHERE WHAT IT READS IS OF BULK AT MOST 1048576: true; the input reads as it did. -/
def toksMayUptoRow : OpenClaim := { program := "ytdfpcnldfibceaa", sum := "c9e4043bcf57161db43051411f8ff9e1338806e07eb6993fe4e6bc0d3184c24e", func := "firkin/firkinlaw11.ToksMay", spec := "toksMay", apart := false, narrowed := true }
def ToksMayUptoSaid : Prop := toksMayUptoRow.holds Try.pinned (OpenSpec.upto toksMaySpec)

/-- 'firkinlaw09.HuffBest', WHERE WHAT IT READS IS OF BULK AT MOST 1048576: true; the input reads as it did. -/
def huffBestUptoRow : OpenClaim := { program := "ytdfpcnldfibceaa", sum := "c9e4043bcf57161db43051411f8ff9e1338806e07eb6993fe4e6bc0d3184c24e", func := "firkin/firkinlaw09.HuffBest", spec := "huffBest", unfollowed := true, recurses := true, apart := false, narrowed := true }
def HuffBestUptoSaid : Prop := huffBestUptoRow.holds Try.pinned (OpenSpec.upto huffBestSpec)

/-- 'firkinlaw11.ToksWrites', WHERE WHAT IT READS IS OF BULK AT MOST 1048576: true; the input reads as it did. -/
def toksWritesUptoRow : OpenClaim := { program := "ytdfpcnldfibceaa", sum := "c9e4043bcf57161db43051411f8ff9e1338806e07eb6993fe4e6bc0d3184c24e", func := "firkin/firkinlaw11.ToksWrites", spec := "toksWrites", unfollowed := true, recurses := true, apart := false, narrowed := true }
def ToksWritesUptoSaid : Prop := toksWritesUptoRow.holds Try.pinned (OpenSpec.upto toksWritesSpec)

/-- 'firkinlaw11.ToksBack', WHERE WHAT IT READS IS OF BULK AT MOST 1048576: true; the input reads as it did. -/
def toksBackUptoRow : OpenClaim := { program := "ytdfpcnldfibceaa", sum := "c9e4043bcf57161db43051411f8ff9e1338806e07eb6993fe4e6bc0d3184c24e", func := "firkin/firkinlaw11.ToksBack", spec := "toksBack", unfollowed := true, recurses := true, apart := false, narrowed := true }
def ToksBackUptoSaid : Prop := toksBackUptoRow.holds Try.pinned (OpenSpec.upto toksBackSpec)

end Rows
end Go.Proofs.Ytdfpcnldfibceaa
