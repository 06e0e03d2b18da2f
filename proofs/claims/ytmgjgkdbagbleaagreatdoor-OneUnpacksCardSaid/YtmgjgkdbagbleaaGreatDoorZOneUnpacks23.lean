/-
  Plain: rows of leaves and pairs (chapter 7): what lengths they give. Plain: the lengths that the rows give: what they cost, what they weigh (chapter 7).
-/
import Derived.Test.YtmgjgkdbagbleaaGreatDoorZOneUnpacks3
import Derived.Test.YtmgjgkdbagbleaaGreatDoorProg
import Derived.BigRegion
import Derived.BigQuiet
import Derived.BigGuardPart
import Derived.Deep.QuietTactic
import Derived.Deep.Light
import Derived.Deep.LoopGhost
import Derived.Deep.DeepCutAuto
import Derived.IntWalk
namespace Go.Proofs.YtmgjgkdbagbleaaGreatDoor.Lens
abbrev It := Nat × List Nat
def leafB (x : It) : Bool := x.2.length == 1
def pairs : List It → List It
  | x :: y :: t => (x.1 + y.1, x.2 ++ y.2) :: pairs t
  | _ => []
def mrg : List It → List It → List It
  | [], ps => ps
  | l :: ls, [] => l :: ls
  | l :: ls, p :: ps => if l.1 ≤ p.1 then l :: mrg ls (p :: ps) else p :: mrg (l :: ls) ps
termination_by ls ps => ls.length + ps.length
def rowN (L : List It) : Nat → List It
  | 0 => L
  | r + 1 => mrg L (pairs (rowN L r))
def lv (k : Nat → Nat) (S : List Nat) : List It := S.map fun s => (k s, [s])
section
variable {k : Nat → Nat} {S : List Nat}
def nl (X : List It) (t : Nat) : Nat := (X.take t).countP leafB
def lenR (k : Nat → Nat) (S : List Nat) : Nat → Nat → Nat → Nat
  | 0, t, s => if s ∈ S.take (nl (rowN (lv k S) 0) t) then 1 else 0
  | r + 1, t, s => (if s ∈ S.take (nl (rowN (lv k S) (r + 1)) t) then 1 else 0) + lenR k S r (2 * (t - nl (rowN (lv k S) (r + 1)) t)) s
end
def ins (k : Nat → Nat) (x : Nat) : List Nat → List Nat
  | [] => [x]
  | y :: t => if k x < k y then x :: y :: t else y :: ins k x t
def order (k : Nat → Nat) : Nat → List Nat
  | 0 => []
  | n + 1 => if k n = 0 then order k n else ins k n (order k n)
def lensV (ks : List Nat) (limit : Nat) : List Nat :=
  let k := fun s => ks.getD s 0
  let S := order k ks.length
  if S.length < 2 then (List.range ks.length).map fun s => if s ∈ S then 1 else 0
  else (List.range ks.length).map (lenR k S (limit - 1) (2 * S.length - 2))
def lensE (ks : List Nat) (limit : Int) : Int :=
  if ks.length > 300 ∨ limit < 1 ∨ limit > 15 then 13 else if (order (fun s => ks.getD s 0) ks.length).length > 2 ^ limit.toNat then 6 else 0
def lensO (ks : List Nat) (limit : Int) : List Nat := if lensE ks limit = 0 then lensV ks limit.toNat else []
end Go.Proofs.YtmgjgkdbagbleaaGreatDoor.Lens
namespace Go.Proofs.YtmgjgkdbagbleaaGreatDoor.Lens
section
variable {k : Nat → Nat} {S : List Nat}
end
end Go.Proofs.YtmgjgkdbagbleaaGreatDoor.Lens
