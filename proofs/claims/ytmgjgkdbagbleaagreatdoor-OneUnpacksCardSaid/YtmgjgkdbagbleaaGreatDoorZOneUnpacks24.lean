/-
  Plain: the bits that toks.Write puts for tokens, and that each symbol that occurs has a word. The walk of toks' (*writer).coder: the lengths are found and written, the coder is made. The walk of toks' (*writer).token: a token's bits are put.
-/
import Derived.Test.YtmgjgkdbagbleaaGreatDoorZOneUnpacks22
import Derived.Test.YtmgjgkdbagbleaaGreatDoorZOneUnpacks23
import Derived.Test.YtmgjgkdbagbleaaGreatDoorZOneUnpacks3
import Derived.Test.YtmgjgkdbagbleaaGreatDoorZOneUnpacks5
import Derived.Test.YtmgjgkdbagbleaaGreatDoorZOneUnpacks4
import Derived.Test.YtmgjgkdbagbleaaGreatDoorZOneUnpacks16
import Derived.Test.YtmgjgkdbagbleaaGreatDoorZOneUnpacks21
import Derived.Test.YtmgjgkdbagbleaaGreatDoorZOneUnpacks17
import Derived.Test.YtmgjgkdbagbleaaGreatDoorProg
import Derived.BigRegion
import Derived.BigQuiet
import Derived.BigGuardPart
import Derived.Deep.QuietTactic
import Derived.Deep.Light
import Derived.Deep.LoopGhost
import Derived.Deep.DeepCutAuto
import Derived.IntWalk
namespace Go.Proofs.YtmgjgkdbagbleaaGreatDoor.TW
open Go.Proofs.YtmgjgkdbagbleaaGreatDoor.Canon Go.Proofs.YtmgjgkdbagbleaaGreatDoor.Huff Go.Proofs.YtmgjgkdbagbleaaGreatDoor.Lens
open Go.Proofs.YtmgjgkdbagbleaaGreatDoor.Toks (Tk Pc splitP mayB bump cntStep cnts allOk lg pw)
def tokB (ls lf : List Nat) (t : Tk) : List Bool :=
  word ls (splitP t).sym.toNat ++ if t.len = 0 then [] else
    msb (splitP t).len.toNat ((splitP t).sym.toNat - 257) ((splitP t).sym.toNat - 257) ++ (word lf (splitP t).dist.toNat ++ msb (splitP t).far.toNat (splitP t).dist.toNat (splitP t).dist.toNat)
def natL (l : List Int) : List Nat := l.map Int.toNat
def ksS (ts : List Tk) : List Nat := natL (Toks.symsOf ts)
def ksF (ts : List Tk) : List Nat := natL (Toks.farsOf ts)
def lsS (ts : List Tk) : List Nat := lensO (ksS ts) 15
def lsF (ts : List Tk) : List Nat := lensO (ksF ts) 15
def writeBits (ts : List Tk) : List Bool := wrBits (lsS ts) ++ wrBits (lsF ts) ++ (ts.flatMap (tokB (lsS ts) (lsF ts)) ++ word (lsS ts) 256)
def writeE (ts : List Tk) : Int := if 32768 < ts.length then 6 else if allOk ts = true then 0 else 7
def writeO (ts : List Tk) : List Nat := if writeE ts = 0 then bytesOf (writeBits ts) else []
end Go.Proofs.YtmgjgkdbagbleaaGreatDoor.TW
namespace Go.Proofs.YtmgjgkdbagbleaaGreatDoor.Huff
open Go.RowKit Go.Proofs.YtmgjgkdbagbleaaGreatDoor.Mem Go.Proofs.YtmgjgkdbagbleaaGreatDoor.Canon Go.Proofs.YtmgjgkdbagbleaaGreatDoor.Own
end Go.Proofs.YtmgjgkdbagbleaaGreatDoor.Huff
namespace Go.Proofs.YtmgjgkdbagbleaaGreatDoor.Huff
open Go.RowKit Go.Proofs.YtmgjgkdbagbleaaGreatDoor.Mem Go.Proofs.YtmgjgkdbagbleaaGreatDoor.Canon Go.Proofs.YtmgjgkdbagbleaaGreatDoor.Own
open Go.Proofs.YtmgjgkdbagbleaaGreatDoor.Toks (Tk Pc splitP mayB)
end Go.Proofs.YtmgjgkdbagbleaaGreatDoor.Huff
