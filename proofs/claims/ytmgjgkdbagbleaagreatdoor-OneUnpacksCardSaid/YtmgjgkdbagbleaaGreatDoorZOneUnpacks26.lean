/-
  The walks of block.squeeze and block.Write. The example of chapter 12.
-/
import Derived.Test.YtmgjgkdbagbleaaGreatDoorZOneUnpacks14
import Derived.Test.YtmgjgkdbagbleaaGreatDoorZOneUnpacks19
import Derived.Test.YtmgjgkdbagbleaaGreatDoorZOneUnpacks5
import Derived.Test.YtmgjgkdbagbleaaGreatDoorZOneUnpacks2
import Derived.Test.YtmgjgkdbagbleaaGreatDoorZOneUnpacks3
import Derived.Test.YtmgjgkdbagbleaaGreatDoorZOneUnpacks20
import Derived.Test.YtmgjgkdbagbleaaGreatDoorZOneUnpacks21
import Derived.Test.YtmgjgkdbagbleaaGreatDoorZOneUnpacks24
import Derived.Test.YtmgjgkdbagbleaaGreatDoorZOneUnpacks18
import Derived.Test.YtmgjgkdbagbleaaGreatDoorZOneUnpacks6
import Derived.Test.YtmgjgkdbagbleaaGreatDoorZOneUnpacks25
import Derived.KernelRfl
import Derived.Lib.SmallJoins
import Derived.BigRegion
import Derived.Deep.DeepCutAuto
import Derived.Laws.BitsLemmas
import Derived.Deep.RegionHeld3
import Derived.BigGuardPart
import Derived.Laws.Bits64b
namespace Go.Proofs.YtmgjgkdbagbleaaGreatDoor.Block
open Go.RowKit Go.Proofs.YtmgjgkdbagbleaaGreatDoor.Mem Go.Proofs.YtmgjgkdbagbleaaGreatDoor.Own Go.Proofs.YtmgjgkdbagbleaaGreatDoor.Canon
open Go.Proofs.YtmgjgkdbagbleaaGreatDoor.NumPut Go.Proofs.YtmgjgkdbagbleaaGreatDoor.Crc
open Go.Proofs.YtmgjgkdbagbleaaGreatDoor.Huff (bytesOf byteAt_le)
open Go.Proofs.YtmgjgkdbagbleaaGreatDoor.Toks (Tk)
def sqO (bs : List Nat) : List Nat := TW.writeO (Lz.find bs)
def sqE (bs : List Nat) : Int := TW.writeE (Lz.find bs)
def sqz (bs : List Nat) : Bool := sqE bs == 0 && decide ((sqO bs).length < bs.length)
def fWay (bs : List Nat) (plain : Bool) : Nat := if !plain && sqz bs then 1 else 0
def fBody (bs : List Nat) (plain : Bool) : List Nat := if !plain && sqz bs then sqO bs else bs
def fHead (bs : List Nat) (plain : Bool) : List Nat := [fWay bs plain] ++ numB bs.length ++ numB (fBody bs plain).length
def fAll (bs : List Nat) (plain : Bool) : List Nat := fHead bs plain ++ fBody bs plain
def frameB (bs : List Nat) (plain : Bool) : List Nat := fAll bs plain ++ tailN (sumN (fAll bs plain))
theorem writeO_le3 (ts : List Tk) : ∀ x ∈ TW.writeO ts, x ≤ 255 := by
  intro x hx
  unfold TW.writeO at hx
  split at hx
  · unfold bytesOf at hx
    obtain ⟨k, _, rfl⟩ := List.mem_map.1 hx
    exact byteAt_le _ _
  · cases hx
theorem own_row4 {w : World} {base c : Nat} {A : Option Addr} {ls : List Nat} (h : w.ownsRow base 5 1 (.slice A ls.length c) ls.length (numL .u8 ls)) : Row w w.heap.size A ls.length 1 (numF .u8 ls) :=
  Row.of_own h rfl fun i j hi hj => by
    obtain rfl : j = 0 := by omega
    simp [numL, numF, List.getD_eq_getElem?_getD, hi]
theorem part_own {w : World} {base n c : Nat} {A : Option Addr} {ls : List Nat} (h : w.ownsRow base 5 1 (.slice A n c) n (numL .u8 ls)) (hn : ls.length = n) : Part.Ok ⟨A, c, ls⟩ w := by
  subst hn
  exact ⟨own_row4 h, (own_wf h).1⟩
theorem part_blk {w : World} {g x : Nat} (h : Blk w g 5 #[.int .u8 (x : Nat)]) : Part.Ok ⟨some ⟨g, 0, none⟩, 1, [x]⟩ w :=
  ⟨Row.of_blk h h.lt fun i j hi hj => by
    obtain rfl : i = 0 := by simp at hi; omega
    obtain rfl : j = 0 := by omega
    rfl, fun e => by cases e⟩
end Go.Proofs.YtmgjgkdbagbleaaGreatDoor.Block
namespace Go.Proofs.YtmgjgkdbagbleaaGreatDoor.Block
open Go.RowKit Go.Proofs.YtmgjgkdbagbleaaGreatDoor.Mem Go.Proofs.YtmgjgkdbagbleaaGreatDoor.Own Go.Proofs.YtmgjgkdbagbleaaGreatDoor.Canon
open Go.Proofs.YtmgjgkdbagbleaaGreatDoor.NumPut Go.Proofs.YtmgjgkdbagbleaaGreatDoor.Crc
end Go.Proofs.YtmgjgkdbagbleaaGreatDoor.Block
