/-
  The walk of the reference's W.Put: a number's bits, one behind the other.
-/
import Derived.Test.YtmgjgkdbagbleaaGreatDoorZOneBack3
import Derived.Test.YtmgjgkdbagbleaaGreatDoorZOneBack2
import Derived.Test.YtmgjgkdbagbleaaGreatDoorZOneBack5
import Derived.Deep.RegionLaw
import Derived.Deep.AppendLies
import Derived.BigGuardPart
namespace Go.Proofs.YtmgjgkdbagbleaaGreatDoor.Huff
open Go.RowKit Go.Proofs.YtmgjgkdbagbleaaGreatDoor.Mem Go.Proofs.YtmgjgkdbagbleaaGreatDoor.Canon Go.Proofs.YtmgjgkdbagbleaaGreatDoor.Own
def b01 (bs : List Bool) : List Nat := bs.map fun b => if b then 1 else 0
theorem b01_length (bs : List Bool) : (b01 bs).length = bs.length := by simp [b01]
theorem b01_get (bs : List Bool) (i : Nat) : (b01 bs).getD i 0 = bit bs i := by
  unfold b01 bit
  rw [List.getD_eq_getElem?_getD, List.getD_eq_getElem?_getD, List.getElem?_map]
  cases bs[i]? <;> simp
end Go.Proofs.YtmgjgkdbagbleaaGreatDoor.Huff
