/-
  Plain: the bits that canon.Write puts for lengths: each length above 0 as 4 bits, a run of at most 64 zeros as 4 zero bits and 6 bits. The walk of canon.Write.
-/
import Derived.Test.YtmgjgkdbagbleaaGreatDoorZOneUnpacks2
import Derived.Test.YtmgjgkdbagbleaaGreatDoorZOneUnpacks5
import Derived.Test.YtmgjgkdbagbleaaGreatDoorZOneUnpacks3
import Derived.BigRegion
import Derived.Deep.DeepCutAuto
import Derived.Laws.BitsLemmas
import Derived.Deep.RegionHeld3
import Derived.BigGuardPart
import Derived.Laws.Bits64b
namespace Go.Proofs.YtmgjgkdbagbleaaGreatDoor.Canon
open Go.Proofs.YtmgjgkdbagbleaaGreatDoor.Huff
def zrun (ls : List Nat) (i : Nat) : Nat → Nat
  | 0 => 0
  | c + 1 => if ls[i]? = some 0 then zrun ls (i + 1) c + 1 else 0
def wrGo (ls : List Nat) : Nat → Nat → List Bool
  | 0, _ => []
  | f + 1, i =>
    if i < ls.length then
      if ls.getD i 0 = 0 then msb 0 4 4 ++ (msb (zrun ls i 64 - 1) 6 6 ++ wrGo ls f (i + zrun ls i 64))
      else msb (ls.getD i 0) 4 4 ++ wrGo ls f (i + 1)
    else []
def wrBits (ls : List Nat) : List Bool := wrGo ls ls.length 0
end Go.Proofs.YtmgjgkdbagbleaaGreatDoor.Canon
namespace Go.Proofs.YtmgjgkdbagbleaaGreatDoor.Huff
open Go.RowKit Go.Proofs.YtmgjgkdbagbleaaGreatDoor.Mem Go.Proofs.YtmgjgkdbagbleaaGreatDoor.Canon Go.Proofs.YtmgjgkdbagbleaaGreatDoor.Own
end Go.Proofs.YtmgjgkdbagbleaaGreatDoor.Huff
